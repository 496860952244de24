/-Plain:arcs and lines beside a common point:the order beside it holds up to the next common point. -/
import Derived.Test.YtkmdgigkbhmilaaGreatBeR
namespace Go.Proofs.YtkmdgigkbhmilaaGreat
open Go Go.RowKit
variable {w w1 w2:Bool}{k k1 k2:Ci}{c d:Cv}{rs:List CellD}{L S:List Pt}{l:Ln}{j n:Nat}{A P0 f1 f2 p q t1 t2:Pt}{em es:Rat}{D X a b pa r t ta x:Re}
theorem mw (h:aw x≠0):aw x=1∨aw x= -1:=by
 rcases aU x with e|e|e
 ·grind
 ·grind
 grind
theorem zZ (h:aw x≠0):aw (x*x)=1:=by
 rw[aQ]
 rcases mw h with e|e<;>rw[e]<;>rfl
section
variable {a b t p A B:Re}(ht:aw t=1) (hN:aw (t*t+p*p+((a*t+b*p)+(a*t+b*p)))=0) (hb:0≤aw b)
include ht hN hb
theorem CA (hg:aw (B*(A*b-B*a))≤0) (hB:aw B≠0):aw (B*(A*t+B*p))= -1:=by
 have h1:aw (b*(B*(A*t+B*p)+B*(A*t+B*p)))= -1:=by
  rw[dN (y:= -(B*B*(t*t+p*p)+ -((B*(A*b-B*a)+B*(A*b-B*a))*t))) (z:=B*B*(t*t+p*p+((a*t+b*p)+(a*t+b*p)))) ((aS fun n=>by simp only[ao,ak,am,aD];grind)) (b9 _ hN),br]
  rw[oS (oJ (zZ hB) (oS (oJ ht ht) (tZ p))) (by rw[br,aQ,ui,ht];omega)]
 rw[aQ,ui] at h1
 rcases aU b with e|e|e
 ·grind
 ·grind
 grind
theorem B4 {n:Re}(hb2:0≤aw (b+p)) (hn:n=A*A+B*B) (hx:aw (ta*n-(B*(A*b-B*a)+B*(A*b-B*a)))=0) (hy:aw (pa*n+(A*(A*b-B*a)+A*(A*b-B*a)))=0)
 (hg:aw (B*(A*b-B*a))=1) (hs:aw (B*(A*t+B*p))≤0):aw ta=1∧0≤aw (t-ta)∧0≤aw (b+pa):=by
 have hB:aw B≠0:=fun e=>by rw[aQ,e] at hg;omega
 have n0:aw n=1:=by rw[hn];exact wC (tZ A) (zZ hB)
 have h1:aw ta=1:=by
  refine Gh (y:=n) ?_ n0
  rw[dN (y:=B*(A*b-B*a)+B*(A*b-B*a)) (z:=ta*n-(B*(A*b-B*a)+B*(A*b-B*a))) rfl hx,ui];exact hg
 refine⟨h1,?_⟩
 rcases aU (B*(A*t+B*p)) with e|e|e
 ·omega
 ·have eS:aw (A*t+B*p)=0:=pp e hB
  have z1:aw (t*n-(B*(A*b-B*a)+B*(A*b-B*a)))=0:=by
   refine pp (x:=t) ?_ (by rw[ht];decide)
   rw[show t*(t*n-(B*(A*b-B*a)+B*(A*b-B*a)))=B*B*(t*t+p*p+((a*t+b*p)+(a*t+b*p)))-((A*t+B*p)-(A*t+A*t)+(b*B+b*B))*(A*t+B*p) from by subst hn;exact(aS fun n=>by simp only[ao,ak,am];grind)]
   exact fA (b9 _ hN) (b9 _ eS)
  have z2:aw (p*n+(A*(A*b-B*a)+A*(A*b-B*a)))=0:=by
   refine pp (x:=B) ?_ hB
   rw[show B*(p*n+(A*(A*b-B*a)+A*(A*b-B*a)))=n*(A*t+B*p)-A*(t*n-(B*(A*b-B*a)+B*(A*b-B*a))) from by subst hn;exact(aS fun n=>by simp only[ao,ak,am];grind)]
   exact fA (b9 _ eS) (b9 _ z1)
  have y1:aw (t-ta)=0:=by
   refine pp (x:=n) ?_ (by rw[n0];decide)
   rw[show n*(t-ta)=(t*n-(B*(A*b-B*a)+B*(A*b-B*a)))-(ta*n-(B*(A*b-B*a)+B*(A*b-B*a))) from(aS fun n=>by simp only[ao,ak,am];grind)]
   exact fA z1 hx
  have y2:aw (pa-p)=0:=by
   refine pp (x:=n) ?_ (by rw[n0];decide)
   rw[show n*(pa-p)=(pa*n+(A*(A*b-B*a)+A*(A*b-B*a)))-(p*n+(A*(A*b-B*a)+A*(A*b-B*a))) from(aS fun n=>by simp only[ao,ak,am];grind)]
   exact fA hy z2
  refine⟨by omega,?_⟩
  rw[dN (y:=b+p) (z:=pa-p) ((aS fun n=>by simp only[ao,ak];grind)) y2];exact hb2
 ·have gs:aw ((A*b-B*a)*(A*t+B*p))= -1:=by
   rw[aQ] at hg e⊢
   rcases mw hB with f|f<;>rw[f] at hg e
   ·grind
   grind
  have hc:aw ((a+t-a)*(b+pa-b)-(b+p-b)*(a+ta-a))=1:=by
   refine Gh (y:=n) ?_ n0
   rw[dN (y:= -((A*b-B*a)*(A*t+B*p)+(A*b-B*a)*(A*t+B*p))) (z:=t*(pa*n+(A*(A*b-B*a)+A*(A*b-B*a)))-p*(ta*n-(B*(A*b-B*a)+B*(A*b-B*a)))) ((aS fun n=>by simp only[ao,ak,am,aD];grind)) (fA (b9 _ hy) (b9 _ hx)),br,ui,gs];rfl
  have na:aw ((a+ta)*(a+ta)+(b+pa)*(b+pa)-(a*a+b*b))=0:=by
   refine pp (x:=n*n) ?_ (by rw[oJ n0 n0];decide)
   rw[show n*n*((a+ta)*(a+ta)+(b+pa)*(b+pa)-(a*a+b*b))=(n*(a+a)+ta*n+(B*(A*b-B*a)+B*(A*b-B*a)))*(ta*n-(B*(A*b-B*a)+B*(A*b-B*a)))+(n*(b+b)+pa*n-(A*(A*b-B*a)+A*(A*b-B*a)))*(pa*n+(A*(A*b-B*a)+A*(A*b-B*a))) from by subst hn;exact(aS fun n=>by simp only[ao,ak,am];grind)]
   exact ns (b9 _ hx) (b9 _ hy)
  obtain⟨c1,c2,c3⟩:=GI (x1:=a) (y1:=b) (x2:=a+t) (y2:=b+p) (xa:=a+ta) (ya:=b+pa) (q:=a*a+b*b) (lK _) (by
   rw[show(a+t)*(a+t)+(b+p)*(b+p)-(a*a+b*b)=t*t+p*p+((a*t+b*p)+(a*t+b*p)) from(aS fun n=>by simp only[ao,ak,am];grind)];exact hN) na hb hb2 (by rw[show a+t-a=t from(aS fun n=>by simp only[ao,ak];grind)];exact ht) hc
  rw[show a+t-(a+ta)=t-ta from(aS fun n=>by simp only[ao,ak];grind)] at c2
  exact⟨by omega,by omega⟩
end
theorem yj {p:Re}(ht:aw t=1) (h:aw (t*t+p*p+((a*t+b*p)+(a*t+b*p)))=0) (hb:aw b=0):aw a= -1:=by
 have h1:aw (a*t+a*t)= -1:=by
  rw[dN (y:= -(t*t+p*p)) (z:=(t*t+p*p+((a*t+b*p)+(a*t+b*p)))-(p+p)*b) ((aS fun n=>by simp only[ao,ak,am,aD];grind)) (fA h (b9 _ hb)),br,oS (oJ ht ht) (tZ p)]
 rw[ui,aQ,ht] at h1;omega
theorem X9 {p u:Re}(ht:aw t=1) (hN:aw (t*t+p*p+((a*t+b*p)+(a*t+b*p)))=0) (hu:aw (u-t)=1) (hM:aw (u*u+r*r+((a*u+b*r)+(a*u+b*r)))=0): ¬(aw b=0∧aw p=0):=fun⟨hb,hp⟩=>by
 have u0:aw u=1:=by
  have:=oS hu (y:=t) (by omega)
  rw[show u-t+t=u from(aS fun n=>by simp only[ao,ak];grind)] at this;exact this
 have h1:aw (t*(u*(u-t)+r*r))=0:=by
  rw[show t*(u*(u-t)+r*r)=t*(u*u+r*r+((a*u+b*r)+(a*u+b*r)))-u*(t*t+p*p+((a*t+b*p)+(a*t+b*p)))+(u*p*p-((t*r+t*r)-(u*p+u*p))*b) from(aS fun n=>by simp only[ao,ak,am];grind)]
  exact ns (fA (b9 _ hM) (b9 _ hN)) (fA (b9 _ hp) (b9 _ hb))
 rw[aQ,ht,oS (oJ u0 hu) (tZ r)] at h1
 exact absurd h1 (by decide)
theorem H7 {A B p:Re}(ht:aw t=1) (ha:aw ta=1) (hta:0≤aw (t-ta)) (hl:aw (A*ta+B*pa)=0) (hs:0≤aw (A*t+B*p)) (hB:aw B= -1) (hb:0≤aw b) (hp:0≤aw (b+p)):0≤aw (b+pa):=by
 have h1:0≤aw (-B*((b+pa)*t)):=by
  rw[dN (y:= -B*(b*(t-ta)+(b+p)*ta)+ta*(A*t+B*p)) (z:= -(t*(A*ta+B*pa))) ((aS fun n=>by simp only[ao,ak,am,aD];grind)) (wz (b9 _ hl))]
  refine fR (ms (by rw[br,hB];decide) (fR (ms hb hta) (ms hp (by omega)))) (ms (by omega) hs)
 rw[aQ,aQ,br,hB,ht] at h1
 omega
theorem A9 {a1 b1 a2 b2 p1 p2:Re}(hN1:aw (t*t+p1*p1+((a1*t+b1*p1)+(a1*t+b1*p1)))=0) (hN2:aw (t*t+p2*p2+((a2*t+b2*p2)+(a2*t+b2*p2)))=0):
 aw ((a1-a2)*t+(b1-b2)*p2)=aw ((p2-p1)*((b1+p1)+(b1+p2))):=by
 rw[←ui ((a1-a2)*t+(b1-b2)*p2)]
 exact dN (z:=(t*t+p1*p1+((a1*t+b1*p1)+(a1*t+b1*p1)))-(t*t+p2*p2+((a2*t+b2*p2)+(a2*t+b2*p2)))) ((aS fun n=>by simp only[ao,ak,am];grind)) (fA hN1 hN2)
section
variable {a1 b1 a2 b2 t p1 p2:Re}(ht:aw t=1) (hN1:aw (t*t+p1*p1+((a1*t+b1*p1)+(a1*t+b1*p1)))=0) (hN2:aw (t*t+p2*p2+((a2*t+b2*p2)+(a2*t+b2*p2)))=0)
include ht hN1 hN2
theorem Er {n:Re}(hb1:0≤aw b1) (hb2:0≤aw b2) (hp1:0≤aw (b1+p1)) (hp2:0≤aw (b2+p2)) (hD:aw (a2*b1-b2*a1)=1∨aw (a2*b1-b2*a1)=0∧aw ((a1*a1+b1*b1)-(a2*a2+b2*b2))=1)
 (hn:n=(a1-a2)*(a1-a2)+(b1-b2)*(b1-b2)) (hx:aw (ta*n-((b1-b2)*((a1-a2)*b2-(b1-b2)*a2)+(b1-b2)*((a1-a2)*b2-(b1-b2)*a2)))=0) (hy:aw (pa*n+((a1-a2)*((a1-a2)*b2-(b1-b2)*a2)+(a1-a2)*((a1-a2)*b2-(b1-b2)*a2)))=0):
 aw (p1-p2)=1∨aw n=1∧aw ta=1∧0≤aw (t-ta)∧0≤aw (b1+pa)∧0≤aw (b2+pa):=by
 rcases aU (p1-p2) with e|e
 ·exact .inl e
 right
 have hp:0≤aw (p2-p1):=by rw[jy];omega
 have hq:0≤aw (b1+p2):=by rw[show b1+p2=(b1+p1)+(p2-p1) from(aS fun n=>by simp only[ao,ak];grind)];exact fR hp1 hp
 have hS:0≤aw ((a1-a2)*t+(b1-b2)*p2):=by rw[A9 hN1 hN2];exact ms hp (fR hp1 hq)
 have eG:(a1-a2)*b2-(b1-b2)*a2= -(a2*b1-b2*a1):=(aS fun n=>by simp only[ak,am,aD];grind)
 rcases aU (b1-b2) with f|f|f
 ·have:=CA (A:=a1-a2) (B:=b1-b2) ht hN2 hb2 (by rw[eG,aQ,br,f];omega) (by rw[f];decide)
  rw[aQ,f] at this
  omega
 ·exfalso
  have hA:0≤aw (a1-a2):=by
   rw[dN (y:=(a1-a2)*t) (z:=p2*(b1-b2)) ((aS fun n=>by simp only[ao,ak,am];grind)) (b9 _ f),aQ,ht] at hS
   omega
  have eD:aw (a2*b1-b2*a1)= -(aw b1*aw (a1-a2)):=by
   rw[dN (y:= -(b1*(a1-a2))) (z:=a1*(b1-b2)) ((aS fun n=>by simp only[ak,am,aD];grind)) (b9 _ f),br,aQ]
  have h9:=f9 hb1 hA
  rcases hD with h|⟨h,g⟩
  ·omega
  ·rw[dN (y:=(a1+a2)*(a1-a2)) (z:=(b1+b2)*(b1-b2)) ((aS fun n=>by simp only[ao,ak,am];grind)) (b9 _ f)] at g
   rw[aQ] at g
   have hA1:aw (a1-a2)=1:=by
    rcases aU (a1-a2) with k|k|k
    ·exact k
    ·rw[k] at g;omega
    ·omega
   rw[hA1] at g eD
   have b10:aw b1=0:=by omega
   have b20:aw b2=0:=by rw[←dJ f];exact b10
   have c1:=yj ht hN1 b10
   have c2:=yj ht hN2 b20
   have:=iJ (x:=a1) (y:=a2) (by rw[c1,c2])
   omega
 ·rcases hD with h|⟨h,g⟩
  ·obtain⟨c1,c2,c3⟩:=B4 (A:=a1-a2) (B:=b1-b2) ht hN2 hb2 hp2 hn hx hy (by rw[eG,aQ,br,f,h];rfl) (by rw[aQ,f];omega)
   have n0:aw n=1:=by rw[hn];exact wC (tZ _) (zZ (by rw[f];decide))
   have hl:aw ((a1-a2)*ta+(b1-b2)*pa)=0:=by
    refine pp (x:=n) ?_ (by rw[n0];decide)
    rw[show n*((a1-a2)*ta+(b1-b2)*pa)=(a1-a2)*(ta*n-((b1-b2)*((a1-a2)*b2-(b1-b2)*a2)+(b1-b2)*((a1-a2)*b2-(b1-b2)*a2)))+(b1-b2)*(pa*n+((a1-a2)*((a1-a2)*b2-(b1-b2)*a2)+(a1-a2)*((a1-a2)*b2-(b1-b2)*a2))) from(aS fun n=>by simp only[ao,ak,am];grind)]
    exact ns (b9 _ hx) (b9 _ hy)
   exact⟨n0,c1,c2,H7 ht c1 c2 hl hS f hb1 hq,c3⟩
  ·exfalso
   have b2p:aw b2=1:=by
    have h1:aw (b1+(b2-b1))=1:=wC hb1 (by rw[jy,f];rfl)
    rw[show b1+(b2-b1)=b2 from(aS fun n=>by simp only[ao,ak];grind)] at h1;exact h1
   have h2:aw (b2*b2*((a1*a1+b1*b1)-(a2*a2+b2*b2)))=1:=by rw[aQ,oJ b2p b2p,g];rfl
   rw[dN (y:=(b1-b2)*((b1+b2)*(a2*a2+b2*b2))) (z:= -((a2*b1+b2*a1)*(a2*b1-b2*a1))) ((aS fun n=>by simp only[ao,ak,am,aD];grind)) (wz (b9 _ h)),aQ,f] at h2
   have h3:=ms (fR hb1 hb2) (fR (tZ a2) (tZ b2))
   omega
theorem No (hb1:0≤aw b1) (hb2:0≤aw (-b2)) (hD:0≤aw (a2*b1-b2*a1)) (hne:aw b1≠0∨aw b2≠0):aw (p1-p2)= -1:=by
 have v1:aw (t*t+p1*p1)=1:=oS (oJ ht ht) (tZ p1)
 have v2:aw (t*t+p2*p2)=1:=oS (oJ ht ht) (tZ p2)
 have h1:aw (b1* -b2*((p1-p2)+(p1-p2)))= -1:=by
  rw[dN (y:= -((t*(a2*b1-b2*a1)+t*(a2*b1-b2*a1))+(-b2*(t*t+p1*p1)+b1*(t*t+p2*p2)))) (z:= -b2*(t*t+p1*p1+((a1*t+b1*p1)+(a1*t+b1*p1)))+b1*(t*t+p2*p2+((a2*t+b2*p2)+(a2*t+b2*p2)))) ((aS fun n=>by simp only[ao,ak,am,aD];grind)) (ns (b9 _ hN1) (b9 _ hN2)),br]
  rw[wC (ms (x:=t) (by omega) hD|>fun g=>fR g g) ?_]
  rcases hne with g|g
  ·exact wC (ms hb2 (by omega)) (oJ ((mw g).resolve_right (by omega)) v2)
  ·refine oS (oJ ?_ v1) (ms hb1 (by omega))
   rw[br] at hb2⊢
   rcases mw g with k|k<;>omega
 rw[aQ,aQ,ui] at h1
 rcases aU b1 with e1|e1|e1<;>rcases aU (-b2) with e2|e2|e2<;>rw[e1,e2] at h1<;>omega
theorem Nw {n:Re}(hb1:0≤aw b1) (hb2:0≤aw (-b2)) (hp1:0≤aw (b1+p1)) (hp2:0≤aw (-(b2+p2))) (hD:aw (a2*b1-b2*a1)= -1∨aw b1=0∧aw b2=0) (hdf: ¬(aw b1=0∧aw p1=0))
 (hn:n=(a1-a2)*(a1-a2)+(b1-b2)*(b1-b2)) (hx:aw (ta*n-((b1-b2)*((a1-a2)*b1-(b1-b2)*a1)+(b1-b2)*((a1-a2)*b1-(b1-b2)*a1)))=0) (hy:aw (pa*n+((a1-a2)*((a1-a2)*b1-(b1-b2)*a1)+(a1-a2)*((a1-a2)*b1-(b1-b2)*a1)))=0):
 aw (p1-p2)=1∨aw n=1∧aw ta=1∧0≤aw (t-ta)∧0≤aw (b1+pa)∧0≤aw (-(b2+pa)):=by
 rcases aU (p1-p2) with e|e
 ·exact .inl e
 right
 have hp:0≤aw (p2-p1):=by rw[jy];omega
 have hq:0≤aw (b1+p2):=by rw[show b1+p2=(b1+p1)+(p2-p1) from(aS fun n=>by simp only[ao,ak];grind)];exact fR hp1 hp
 have hq2:0≤aw (-(b2+p1)):=by rw[show-(b2+p1)= -(b2+p2)+(p2-p1) from(aS fun n=>by simp only[ao,ak,aD];grind)];exact fR hp2 hp
 have hS:0≤aw ((a1-a2)*t+(b1-b2)*p2):=by rw[A9 hN1 hN2];exact ms hp (fR hp1 hq)
 have hS1:aw ((a1-a2)*t+(b1-b2)*p1)≤0:=by
  have h1:=A9 hN2 hN1
  rw[show(a2-a1)*t+(b2-b1)*p1= -((a1-a2)*t+(b1-b2)*p1) from(aS fun n=>by simp only[ao,ak,am,aD];grind),br,show(p1-p2)*((b2+p2)+(b2+p1))=(p2-p1)*(-(b2+p2)+ -(b2+p1)) from(aS fun n=>by simp only[ao,ak,am,aD];grind)] at h1
  have h2:=ms hp (fR hp2 hq2)
  omega
 have hB:0≤aw (b1-b2):=fR hb1 hb2
 rcases aU (b1-b2) with f|f|f
 ·rcases hD with h|⟨h,g⟩
  ·have eG:(a1-a2)*b1-(b1-b2)*a1= -(a2*b1-b2*a1):=(aS fun n=>by simp only[ak,am,aD];grind)
   obtain⟨c1,c2,c3⟩:=B4 (A:=a1-a2) (B:=b1-b2) ht hN1 hb1 hp1 hn hx hy (by rw[eG,aQ,br,f,h];rfl) (by rw[aQ,f];omega)
   have n0:aw n=1:=by rw[hn];exact wC (tZ _) (zZ (by rw[f];decide))
   have hl:aw ((a1-a2)*ta+(b1-b2)*pa)=0:=by
    refine pp (x:=n) ?_ (by rw[n0];decide)
    rw[show n*((a1-a2)*ta+(b1-b2)*pa)=(a1-a2)*(ta*n-((b1-b2)*((a1-a2)*b1-(b1-b2)*a1)+(b1-b2)*((a1-a2)*b1-(b1-b2)*a1)))+(b1-b2)*(pa*n+((a1-a2)*((a1-a2)*b1-(b1-b2)*a1)+(a1-a2)*((a1-a2)*b1-(b1-b2)*a1))) from(aS fun n=>by simp only[ao,ak,am];grind)]
    exact ns (b9 _ hx) (b9 _ hy)
   refine⟨n0,c1,c2,c3,?_⟩
   have:=H7 (A:=a1-a2) (B:= -(b1-b2)) (t:=t) (p:= -p2) (b:= -b2) (ta:=ta) (pa:= -pa) ht c1 c2 (by rw[show(a1-a2)*ta+ -(b1-b2)* -pa=(a1-a2)*ta+(b1-b2)*pa from(aS fun n=>by simp only[ao,ak,am,aD];grind)];exact hl) (by rw[show(a1-a2)*t+ -(b1-b2)* -p2=(a1-a2)*t+(b1-b2)*p2 from(aS fun n=>by simp only[ao,ak,am,aD];grind)];exact hS) (by rw[br,f]) hb2 (by rw[show-b2+ -p2= -(b2+p2) from(aS fun n=>by simp only[ao,aD];grind)];exact hp2)
   rw[show-(b2+pa)= -b2+ -pa from(aS fun n=>by simp only[ao,aD];grind)];exact this
  ·rw[dP (x:=b1) (y:= -b2) (wz g)|>fun k=>(show aw (b1-b2)=aw b1 from k),h] at f
   omega
 ·exfalso
  have b10:aw b1=0:=by
   apply gT
   intro hh
   have:=oS ((mw hh).resolve_right (by omega)) hb2
   rw[show b1+ -b2=b1-b2 from rfl] at this
   omega
  have b20:aw b2=0:=by rw[←dJ f];exact b10
  have z1:0≤aw p1:=by rw[←jG b10 p1];exact hp1
  have z2:0≤aw (-p2):=by
   rw[br,jG b20 p2] at hp2
   rw[br];exact hp2
  have z3:aw p1=0:=by
   apply gT
   intro hh
   have:=oS ((mw hh).resolve_right (by omega)) z2
   rw[show p1+ -p2=p1-p2 from rfl] at this
   omega
  grind
 grind
theorem Nd (hb1:0≤aw b1) (hb2:0≤aw b2) (hp1:0≤aw (b1+p1)) (hp2:0≤aw (b2+p2)) (hD:aw (a2*b1-b2*a1)=0) (hQ:aw ((a1*a1+b1*b1)-(a2*a2+b2*b2))=0):aw (p1-p2)=0:=by
 have key:aw (a1-a2)=0∧aw (b1-b2)=0:=by
  rcases aU b1 with e1|e1|e1<;>rcases aU b2 with e2|e2|e2<;>try omega
  ·have z:aw (b1-b2)=0:=by
    refine pp (x:=(b1+b2)*(a1*a1+b1*b1)) ?_ ?_
    ·rw[show(b1+b2)*(a1*a1+b1*b1)*(b1-b2)=(a2*b1+b2*a1)*(a2*b1-b2*a1)+b1*b1*((a1*a1+b1*b1)-(a2*a2+b2*b2)) from(aS fun n=>by simp only[ao,ak,am];grind)]
     exact ns (b9 _ hD) (b9 _ hQ)
    ·rw[oJ (oS e1 hb2) (wC (tZ a1) (oJ e1 e1))];decide
   refine⟨pp (x:=b1) ?_ (by rw[e1];decide),z⟩
   rw[show b1*(a1-a2)=a1*(b1-b2)-(a2*b1-b2*a1) from(aS fun n=>by simp only[ak,am];grind)]
   exact fA (b9 _ z) hD
  ·exfalso
   have c:=yj ht hN2 e2
   have h1:aw (a2*b1)=0:=by
    rw[dN (x:=a2*b1) (y:=a1*b2) (z:=a2*b1-b2*a1) ((aS fun n=>by simp only[ak,am];grind)) hD];exact b9 _ e2
   rw[aQ,c,e1] at h1
   grind
  ·exfalso
   have c:=yj ht hN1 e1
   have h1:aw (a1*b2)=0:=by
    rw[dN (x:=a1*b2) (y:=a2*b1) (z:= -(a2*b1-b2*a1)) ((aS fun n=>by simp only[ak,am,aD];grind)) (wz hD)];exact b9 _ e1
   rw[aQ,c,e2] at h1
   grind
  ·have c1:=yj ht hN1 e1
   have c2:=yj ht hN2 e2
   have z:aw (b1-b2)=0:=fA e1 e2
   refine⟨pp (x:=a1+a2) ?_ (by rw[iJ (by rw[c1,c2]),c1];decide),z⟩
   rw[show(a1+a2)*(a1-a2)=((a1*a1+b1*b1)-(a2*a2+b2*b2))-(b1+b2)*(b1-b2) from(aS fun n=>by simp only[ao,ak,am];grind)]
   exact fA hQ (b9 _ z)
 obtain⟨zA,zB⟩:=key
 have h1:aw ((p2-p1)*((b1+p1)+(b1+p2)))=0:=by
  rw[←A9 hN1 hN2,show(a1-a2)*t+(b1-b2)*p2=t*(a1-a2)+p2*(b1-b2) from(aS fun n=>by simp only[ao,ak,am];grind)]
  exact ns (b9 _ zA) (b9 _ zB)
 have hq:0≤aw (b1+p2):=by rw[dN (x:=b1+p2) (y:=b2+p2) (z:=b1-b2) ((aS fun n=>by simp only[ao,ak];grind)) zB];exact hp2
 rcases aU ((b1+p1)+(b1+p2)) with e|e|e
 ·have:=pp (x:=(b1+p1)+(b1+p2)) (y:=p2-p1) (by rw[sr];exact h1) (by rw[e];decide)
  rw[jy,this];rfl
 ·have y1:aw (b1+p1)=0:=by
   apply gT
   intro hh
   have:=oS ((mw hh).resolve_right (by omega)) hq
   omega
  have y2:aw (b1+p2)=0:=by rw[←jG y1 (b1+p2)];exact e
  rw[show p1-p2=(b1+p1)-(b1+p2) from(aS fun n=>by simp only[ao,ak];grind)]
  exact fA y1 y2
 ·have:=fR hp1 hq;omega
end
def tL (l:Ln) (k:Ci) (p:Pt):Re:=Re.of l.a*rY k p-Re.of l.b*rX k p
section
variable {l:Ln}{k:Ci}{p:Pt}(hn:dE l≠0) (op:OnK k p) (h0:aw (sj l p)=0)
include h0
theorem Yd:LinP (Re.of l.a) (Re.of l.b) (Re.of (dE l)) (Re.of (gM l k.x k.y)) (tL l k p) (rX k p) (rY k p):=by
 have h2:aw (Re.of l.a*rX k p+Re.of l.b*rY k p+Re.of (gM l k.x k.y))=0:=by rw[Qq];exact h0
 refine⟨?_,?_⟩
 ·rw[show rX k p*Re.of (dE l)+(Re.of (gM l k.x k.y)*Re.of l.a+Re.of l.b*tL l k p)=Re.of l.a*(Re.of l.a*rX k p+Re.of l.b*rY k p+Re.of (gM l k.x k.y)) from by unfold tL dE;exact(aS fun n=>by simp only[ao,ak,am,aE];grind)]
  exact b9 _ h2
 ·rw[show rY k p*Re.of (dE l)+(Re.of (gM l k.x k.y)*Re.of l.b-Re.of l.a*tL l k p)=Re.of l.b*(Re.of l.a*rX k p+Re.of l.b*rY k p+Re.of (gM l k.x k.y)) from by unfold tL dE;exact(aS fun n=>by simp only[ao,ak,am,aE];grind)]
  exact b9 _ h2
theorem DE (hA:LinP (Re.of l.a) (Re.of l.b) (Re.of (dE l)) (Re.of (gM l k.x k.y)) r (rX k A) (rY k A)) (hr:aw (r+tL l k p)=0):
 aw ((pX A-pX p)*Re.of (dE l)-(Re.of l.b*tL l k p+Re.of l.b*tL l k p))=0∧aw ((pY A-pY p)*Re.of (dE l)+(Re.of l.a*tL l k p+Re.of l.a*tL l k p))=0:=by
 have hp:=Yd (k:=k) h0
 refine⟨?_,?_⟩
 ·rw[show(pX A-pX p)*Re.of (dE l)-(Re.of l.b*tL l k p+Re.of l.b*tL l k p)=((rX k A*Re.of (dE l)+(Re.of (gM l k.x k.y)*Re.of l.a+Re.of l.b*r))-(rX k p*Re.of (dE l)+(Re.of (gM l k.x k.y)*Re.of l.a+Re.of l.b*tL l k p)))-Re.of l.b*(r+tL l k p) from by unfold rX;exact(aS fun n=>by simp only[ao,ak,am,aE];grind)]
  exact fA (fA hA.x hp.x) (b9 _ hr)
 ·rw[show(pY A-pY p)*Re.of (dE l)+(Re.of l.a*tL l k p+Re.of l.a*tL l k p)=((rY k A*Re.of (dE l)+(Re.of (gM l k.x k.y)*Re.of l.b-Re.of l.a*r))-(rY k p*Re.of (dE l)+(Re.of (gM l k.x k.y)*Re.of l.b-Re.of l.a*tL l k p)))+Re.of l.a*(r+tL l k p) from by unfold rY;exact(aS fun n=>by simp only[ao,ak,am,aE];grind)]
  exact ns (fA hA.y hp.y) (b9 _ hr)
include op
theorem abn:aw (tL l k p*tL l k p-Re.of (fz l k))=0:=by
 have h1:=T7 op
 have h2:aw (Re.of l.a*rX k p+Re.of l.b*rY k p+Re.of (gM l k.x k.y))=0:=by rw[Qq];exact h0
 rw[show tL l k p*tL l k p-Re.of (fz l k)=Re.of (dE l)*((pX p-Re.of k.x)*(pX p-Re.of k.x)+(pY p-Re.of k.y)*(pY p-Re.of k.y)-Re.of k.q)-(Re.of l.a*rX k p+Re.of l.b*rY k p-Re.of (gM l k.x k.y))*(Re.of l.a*rX k p+Re.of l.b*rY k p+Re.of (gM l k.x k.y)) from by
  unfold tL fz rX rY dE;exact(aS fun n=>by simp only[ao,ak,am,aE];grind)]
 exact fA (b9 _ h1) (b9 _ h2)
include hn
theorem GJ (hT:aw (tL l k p)≠0): ∃A∈iu l k,aw ((pX A-pX p)*Re.of (dE l)-(Re.of l.b*tL l k p+Re.of l.b*tL l k p))=0∧aw ((pY A-pY p)*Re.of (dE l)+(Re.of l.a*tL l k p+Re.of l.a*tL l k p))=0∧
 ∃r,aw (r*r-Re.of (fz l k))=0∧LinP (Re.of l.a) (Re.of l.b) (Re.of (dE l)) (Re.of (gM l k.x k.y)) r (rX k A) (rY k A):=by
 have h1:=abn op h0
 have hr:0<fz l k:=by
  have h2:=zZ hT
  rw[dJ h1,cj] at h2
  exact uI.1 (by omega)
 obtain⟨mP,mQ⟩:=Jx hr
 have q1:=ng (Rat.le_of_lt hr)
 rcases mw hT with e|e
 ·have h3:aw (-Re.rt (fz l k)+tL l k p)=0:=by
   rw[yr]
   refine Ey (u5 _) (by omega) ?_
   rw[show tL l k p*tL l k p-Re.rt (fz l k)*Re.rt (fz l k)=(tL l k p*tL l k p-Re.of (fz l k))-(Re.rt (fz l k)*Re.rt (fz l k)-Re.of (fz l k)) from(aS fun n=>by simp only[ak,am,aE];grind)]
   exact fA h1 q1
  obtain⟨a,b⟩:=DE h0 (KH hn hr) h3
  exact⟨_,mQ,a,b,_,by rw[show-Re.rt (fz l k)* -Re.rt (fz l k)-Re.of (fz l k)=Re.rt (fz l k)*Re.rt (fz l k)-Re.of (fz l k) from(aS fun n=>by simp only[ak,am,aE,aD];grind)];exact q1,KH hn hr⟩
 ·have h3:aw (Re.rt (fz l k)+tL l k p)=0:=by
   rw[show Re.rt (fz l k)+tL l k p= -(-tL l k p-Re.rt (fz l k)) from(aS fun n=>by simp only[ao,ak,aD];grind)]
   refine wz (Ey (u5 _) (by rw[br,e];decide) ?_)
   rw[show-tL l k p* -tL l k p-Re.rt (fz l k)*Re.rt (fz l k)=(tL l k p*tL l k p-Re.of (fz l k))-(Re.rt (fz l k)*Re.rt (fz l k)-Re.of (fz l k)) from(aS fun n=>by simp only[ak,am,aE,aD];grind)]
   exact fA h1 q1
  obtain⟨a,b⟩:=DE h0 (KW hn hr) h3
  exact⟨_,mP,a,b,_,q1,KW hn hr⟩
end
def sH (w:Bool):Int:=if w then 1 else-1
theorem DO (hp:0≤p.c):aw (rY k p)=jL p k.y:=(AA hp _).symm
theorem JS {f t:Pt}(vc:CvV (.arc k w f t)) (hm:(Cv.arc k w f t).mono=true) (op:OnK k p):
 (Cv.arc k w f t).on p=true↔0≤sH w*aw (rY k p)∧cx f p≤0∧cx p t≤0:=by
 rw[EH vc hm op,DO (b8 op)]
 have h:=uv (k:=k) vc.pos op
 unfold sH
 cases w with
 |true=>
  grind
 |false=>
  grind
theorem Ma (w:Bool):aw (Re.of (sW w))=sH w:=by cases w<;>(rw[cj];decide+kernel)
theorem T6 (w:Bool):sH w=1∨sH w= -1:=by cases w<;>simp[sH]
theorem OY (hp:GP p) (oq:OnK k q) (h:cP p q=0):OnK k p:=by
 obtain⟨hx,hy⟩:=vW hp oq.1 h
 refine⟨hp,?_⟩
 rw[q7 hp]
 have h1:=ow oq
 have h2:aw (ri k p)=aw (ri k q):=dN (z:=(pX p+pX q-(Re.of k.x+Re.of k.x))*(pX p-pX q)+(pY p+pY q-(Re.of k.y+Re.of k.y))*(pY p-pY q)) (by unfold ri;exact(aS fun n=>by simp only[ao,ak,am,aE];grind)) (ns (b9 _ hx) (b9 _ hy))
 omega
theorem Tj {P:Pt}(h1:em*em=1) (h2:es*es=1) (o0:OnK k P0) (oP:aw (ri k P)=0) (hX:aw (pX P-X)=0):
 aw (Re.of em*(X-pX P0)*(Re.of em*(X-pX P0))+Re.of es*(pY P-pY P0)*(Re.of es*(pY P-pY P0))+((Re.of em*rX k P0*(Re.of em*(X-pX P0))+Re.of es*rY k P0*(Re.of es*(pY P-pY P0)))+(Re.of em*rX k P0*(Re.of em*(X-pX P0))+Re.of es*rY k P0*(Re.of es*(pY P-pY P0)))))=0:=by
 have a:=T7 o0
 have b:aw ((pX P-Re.of k.x)*(pX P-Re.of k.x)+(pY P-Re.of k.y)*(pY P-Re.of k.y)-Re.of k.q)=0:=oP
 rw[show Re.of em*(X-pX P0)*(Re.of em*(X-pX P0))+Re.of es*(pY P-pY P0)*(Re.of es*(pY P-pY P0))+((Re.of em*rX k P0*(Re.of em*(X-pX P0))+Re.of es*rY k P0*(Re.of es*(pY P-pY P0)))+(Re.of em*rX k P0*(Re.of em*(X-pX P0))+Re.of es*rY k P0*(Re.of es*(pY P-pY P0))))=
  ((pX P-Re.of k.x)*(pX P-Re.of k.x)+(pY P-Re.of k.y)*(pY P-Re.of k.y)-Re.of k.q)-((pX P0-Re.of k.x)*(pX P0-Re.of k.x)+(pY P0-Re.of k.y)*(pY P0-Re.of k.y)-Re.of k.q)-(X+pX P-(Re.of k.x+Re.of k.x))*(pX P-X) from by unfold rX rY;exact(aS fun n=>by simp only[ao,ak,am,aE];grind)]
 exact fA (fA b a) (b9 _ hX)
theorem NG:ph (.arc k1 w1 f1 t1) (.arc k2 w2 f2 t2)=if w1=w2 then sH w1*aR k1.q k2.q else-sH w1:=by
 cases w1<;>cases w2<;>simp[ph,Cv.bnd,sH,Cv.qq]
section
variable {k1 k2:Ci}{w1 w2:Bool}{f1 t1 f2 t2 P0 P0':Pt}{side:Int}
theorem NT:wW (.arc k1 w1 f1 t1) (.arc k2 w2 f2 t2) ((Cv.arc k1 w1 f1 t1).slp P0) ((Cv.arc k2 w2 f2 t2).slp P0') side=
 if jL P0 k1.y=0 then(if jL P0' k2.y=0 then(if w1=w2 then sH w1*aR k1.q k2.q else sH w1) else sH w1)
 else if jL P0' k2.y=0 then-sH w2 else
  if jm (tO k1 P0-tO k2 P0') (jB k1 P0) (-jB k2 P0') 0 (zc (jB k1 P0) P0.c) (zc (jB k2 P0') P0'.c)=0 then ph (.arc k1 w1 f1 t1) (.arc k2 w2 f2 t2)
  else side*jm (tO k1 P0-tO k2 P0') (jB k1 P0) (-jB k2 P0') 0 (zc (jB k1 P0) P0.c) (zc (jB k2 P0') P0'.c):=by
 have e1:(Cv.arc k1 w1 f1 t1).slp P0=if jL P0 k1.y=0 then .st (sH w1) else .vl (tO k1 P0) (jB k1 P0) (zc (jB k1 P0) P0.c):=rfl
 have e2:(Cv.arc k2 w2 f2 t2).slp P0'=if jL P0' k2.y=0 then .st (sH w2) else .vl (tO k2 P0') (jB k2 P0') (zc (jB k2 P0') P0'.c):=rfl
 rw[e1,e2]
 by_cases z1:jL P0 k1.y=0
 ·rw[if_pos z1,if_pos z1]
  by_cases z2:jL P0' k2.y=0
  ·rw[if_pos z2,if_pos z2]
   cases w1<;>cases w2<;>simp[wW,rk,sH,Cv.qq]
  ·rw[if_neg z2,if_neg z2]
   cases w1<;>simp[wW,rk,sH]
 ·rw[if_neg z1,if_neg z1]
  by_cases z2:jL P0' k2.y=0
  ·rw[if_pos z2,if_pos z2]
   cases w2<;>simp[wW,rk,sH]
  ·rw[if_neg z2,if_neg z2]
   exact(if_neg (show ¬((0:Int)<0) by decide)).trans (if_neg (show ¬((0:Int)>0) by decide))
variable {em:Rat}(hside:em=1∧side=1∨em= -1∧side= -1) (o1:OnK k1 P0) (o2':OnK k2 P0') (e0:cP P0 P0'=0) {t p1 p2:Re}(ht:aw t=1)
 (hN1:aw (t*t+p1*p1+((Re.of em*rX k1 P0*t+Re.of (sW w1)*rY k1 P0*p1)+(Re.of em*rX k1 P0*t+Re.of (sW w1)*rY k1 P0*p1)))=0)
 (hN2:aw (t*t+p2*p2+((Re.of em*rX k2 P0*t+Re.of (sW w1)*rY k2 P0*p2)+(Re.of em*rX k2 P0*t+Re.of (sW w1)*rY k2 P0*p2)))=0)
 (u1:0≤sH w1*aw (rY k1 P0)) (u2:0≤sH w2*aw (rY k2 P0))
include hside o1 o2' e0 ht hN1 hN2 u1 u2
theorem S4 {n:Int}(hn:wW (.arc k1 w1 f1 t1) (.arc k2 w2 f2 t2) ((Cv.arc k1 w1 f1 t1).slp P0) ((Cv.arc k2 w2 f2 t2).slp P0') side=n) (hD:D=Re.of em*rX k2 P0*(Re.of (sW w1)*rY k1 P0)-Re.of (sW w1)*rY k2 P0*(Re.of em*rX k1 P0)):
 (w1=w2→(aw D=1→n=sH w1)∧(aw D= -1→n= -sH w1)∧(aw D=0→n=sH w1*aR k1.q k2.q))∧
 (w1≠w2→(aw D= -1∨aw (rY k1 P0)=0∧aw (rY k2 P0)=0→n=sH w1)∧(0≤aw D→ ¬(aw (rY k1 P0)=0∧aw (rY k2 P0)=0)→n= -sH w1)):=by
 have s1:jL P0 k1.y=aw (rY k1 P0):=(DO (b8 o1)).symm
 have s2:jL P0' k2.y=aw (rY k2 P0):=by rw[DO (b8 o1)];exact(Bh (b8 o1) (b8 o2') e0 _).symm
 have m1:aw (Re.of em)=side:=by rcases hside with⟨rfl,rfl⟩|⟨rfl,rfl⟩<;>(rw[cj];decide+kernel)
 have m2:side=1∨side= -1:=by rcases hside with⟨_,h⟩|⟨_,h⟩<;>omega
 have w1s:=Ma w1
 have hw:=T6 w1
 have hw2:=T6 w2
 have hww:w1=w2∧sH w1=sH w2∨w1≠w2∧sH w2= -sH w1:=by cases w1<;>cases w2<;>simp[sH]
 rw[NT,s1,s2] at hn
 have y1:=aU (rY k1 P0)
 have y2:=aU (rY k2 P0)
 have b1:aw (Re.of (sW w1)*rY k1 P0)=sH w1*aw (rY k1 P0):=by rw[aQ,w1s]
 have b2:aw (Re.of (sW w1)*rY k2 P0)=sH w1*aw (rY k2 P0):=by rw[aQ,w1s]
 by_cases z1:aw (rY k1 P0)=0
 ·have a1:=yj ht hN1 (by rw[b1,z1,mH])
  have eD:aw D=sH w1*aw (rY k2 P0):=by
   rw[dN (x:=D) (y:= -(Re.of (sW w1)*rY k2 P0*(Re.of em*rX k1 P0))) (z:=Re.of em*rX k2 P0*Re.of (sW w1)*rY k1 P0) (by subst hD;exact(aS fun n=>by simp only[ak,am,aE,aD];grind)) (b9 _ z1),br,aQ,a1,b2];omega
  rw[if_pos z1] at hn
  by_cases z2:aw (rY k2 P0)=0
  ·rw[if_pos z2] at hn
   rw[z2,mH] at eD
   refine⟨fun hw'=>?_,fun hw'=>?_⟩
   ·rw[if_pos hw'] at hn
    exact⟨fun h=>by omega,fun h=>by omega,fun _=>hn.symm⟩
   ·rw[if_neg hw'] at hn
    exact⟨fun _=>hn.symm,fun _ g=>absurd ⟨z1,z2⟩ g⟩
  ·rw[if_neg z2] at hn
   refine⟨fun hw'=>?_,fun hw'=>?_⟩
   ·subst hw'
    refine⟨fun _=>hn.symm,fun h=>?_,fun h=>?_⟩<;>(rw[eD] at h;rcases hw with e|e<;>rw[e] at h u2<;>omega)
   ·obtain⟨_,e⟩:=hww.resolve_left (fun g=>hw' g.1)
    rw[e] at u2
    refine⟨fun _=>hn.symm,fun h _=>?_⟩
    rw[eD] at h
    rcases hw with e|e<;>rw[e] at h u2<;>omega
 ·rw[if_neg z1] at hn
  by_cases z2:aw (rY k2 P0)=0
  ·have a2:=yj ht hN2 (by rw[b2,z2,mH])
   have eD:aw D= -(sH w1*aw (rY k1 P0)):=by
    rw[dN (x:=D) (y:=Re.of em*rX k2 P0*(Re.of (sW w1)*rY k1 P0)) (z:= -(Re.of (sW w1)*(Re.of em*rX k1 P0)*rY k2 P0)) (by subst hD;exact(aS fun n=>by simp only[ak,am,aE,aD];grind)) (wz (b9 _ z2)),aQ,a2,b1];omega
   rw[if_pos z2] at hn
   refine⟨fun hw'=>?_,fun hw'=>?_⟩
   ·subst hw'
    refine⟨fun h=>?_,fun _=>hn.symm,fun h=>?_⟩<;>(rw[eD] at h;rcases hw with e|e<;>rw[e] at h u1<;>omega)
   ·obtain⟨_,e⟩:=hww.resolve_left (fun g=>hw' g.1)
    rw[e] at hn
    refine⟨fun _=>by omega,fun h _=>?_⟩
    rw[eD] at h
    rcases hw with e|e<;>rw[e] at h u1<;>omega
  ·rw[if_neg z2] at hn
   have v1:=Fw (k:=k1) o1.1 (by rw[s1];exact z1)
   have v2':=Fw (k:=k2) o2'.1 (by rw[s2];exact z2)
   obtain⟨hx,hy⟩:=vW o1.1 o2'.1 e0
   rw[kX (ii (b8 o1)) (ii (b8 o2'))] at hn
   generalize aA (tO k1 P0) (jB k1 P0) (zc (jB k1 P0) P0.c)=V1 at*
   generalize aA (tO k2 P0') (jB k2 P0') (zc (jB k2 P0') P0'.c)=V2 at*
   have q1:aw (V1*rY k1 P0+rX k1 P0)=0:=v1
   have q2:aw (V2*rY k2 P0+rX k2 P0)=0:=by
    rw[show V2*rY k2 P0+rX k2 P0=(V2*(pY P0'-Re.of k2.y)+(pX P0'-Re.of k2.x))+(V2*(pY P0-pY P0')+(pX P0-pX P0')) from by unfold rX rY;exact(aS fun n=>by simp only[ao,ak,am,aE];grind)]
    exact ns v2' (ns (b9 _ hy) hx)
   have eD:aw D=side*sH w1*(aw (rY k1 P0)*aw (rY k2 P0))*aw (V1-V2):=by
    rw[dN (x:=D) (y:=Re.of em*Re.of (sW w1)*(rY k1 P0*rY k2 P0)*(V1-V2)) (z:=Re.of em*Re.of (sW w1)*rY k1 P0*(V2*rY k2 P0+rX k2 P0)-Re.of em*Re.of (sW w1)*rY k2 P0*(V1*rY k1 P0+rX k1 P0)) (by subst hD;exact(aS fun n=>by simp only[ao,ak,am,aE];grind)) (fA (b9 _ q2) (b9 _ q1)),aQ,aQ,aQ,aQ,m1,w1s]
   rw[NG] at hn
   have hV:=aU (V1-V2)
   refine⟨fun hw'=>?_,fun hw'=>?_⟩
   ·grind
   grind
end
theorem wP (w:Bool) :aw (Re.of (sW w)*x)=sH w*aw x:=by rw[aQ,Ma]
theorem Z3 (h:w1≠w2):sH w2= -sH w1:=by cases w1<;>cases w2<;>simp[sH] at*
theorem R5 (hn:dE l≠0) (hL:LinP (Re.of l.a) (Re.of l.b) (Re.of (dE l)) (Re.of (gM l k.x k.y)) r (rX k A) (rY k A)) (hr:aw (r*r-Re.of (fz l k))=0):aw (ri k A)=0∧aw (sj l A)=0:=by
 have n0:aw (Re.of (dE l))=1:=by
  have h6:=LX (Re.of l.a) (Re.of l.b)
  rw[fK,fK,Fg] at h6
  have h7:Re.of (dE l)=Re.of (l.a*l.a+l.b*l.b):=rfl
  rcases aU (Re.of (dE l)) with e|e|e
  ·exact e
  ·rw[cj] at e;exact absurd (ij.1 e) hn
  grind
 have hq:Re.of (dE l)=Re.of l.a*Re.of l.a+Re.of l.b*Re.of l.b:=by unfold dE;rfl
 refine⟨?_,?_⟩
 ·have h:=hL.on (q:=Re.of k.q) hq n0 (by
   rw[show r*r+Re.of (gM l k.x k.y)*Re.of (gM l k.x k.y)-Re.of (dE l)*Re.of k.q=r*r-Re.of (fz l k) from by unfold fz;exact(aS fun n=>by simp only[ao,ak,am,aE];grind)]
   exact hr)
  exact h
 ·refine pp (x:=Re.of (dE l)) ?_ (by rw[n0];decide)
  rw[←Qq (k:=k),show Re.of (dE l)*(Re.of l.a*rX k A+Re.of l.b*rY k A+Re.of (gM l k.x k.y))=Re.of l.a*(rX k A*Re.of (dE l)+(Re.of (gM l k.x k.y)*Re.of l.a+Re.of l.b*r))+Re.of l.b*(rY k A*Re.of (dE l)+(Re.of (gM l k.x k.y)*Re.of l.b-Re.of l.a*r)) from by unfold dE;exact(aS fun n=>by simp only[ao,ak,am,aE];grind)]
  exact ns (b9 _ hL.x) (b9 _ hL.y)
theorem Z9 (hk1:GK k1) (hk2:GK k2) (o1:OnK k1 P0) (o2:OnK k2 P0) (h1:em*em=1) (h2:es*es=1):
 ∃ta pa:Re,aw (ta*((Re.of em*rX k1 P0-Re.of em*rX k2 P0)*(Re.of em*rX k1 P0-Re.of em*rX k2 P0)+(Re.of es*rY k1 P0-Re.of es*rY k2 P0)*(Re.of es*rY k1 P0-Re.of es*rY k2 P0))-
   ((Re.of es*rY k1 P0-Re.of es*rY k2 P0)*((Re.of em*rX k1 P0-Re.of em*rX k2 P0)*(Re.of es*rY k1 P0)-(Re.of es*rY k1 P0-Re.of es*rY k2 P0)*(Re.of em*rX k1 P0))+(Re.of es*rY k1 P0-Re.of es*rY k2 P0)*((Re.of em*rX k1 P0-Re.of em*rX k2 P0)*(Re.of es*rY k1 P0)-(Re.of es*rY k1 P0-Re.of es*rY k2 P0)*(Re.of em*rX k1 P0))))=0∧
  aw (pa*((Re.of em*rX k1 P0-Re.of em*rX k2 P0)*(Re.of em*rX k1 P0-Re.of em*rX k2 P0)+(Re.of es*rY k1 P0-Re.of es*rY k2 P0)*(Re.of es*rY k1 P0-Re.of es*rY k2 P0))+
   ((Re.of em*rX k1 P0-Re.of em*rX k2 P0)*((Re.of em*rX k1 P0-Re.of em*rX k2 P0)*(Re.of es*rY k1 P0)-(Re.of es*rY k1 P0-Re.of es*rY k2 P0)*(Re.of em*rX k1 P0))+(Re.of em*rX k1 P0-Re.of em*rX k2 P0)*((Re.of em*rX k1 P0-Re.of em*rX k2 P0)*(Re.of es*rY k1 P0)-(Re.of es*rY k1 P0-Re.of es*rY k2 P0)*(Re.of em*rX k1 P0))))=0∧
  (aw ta=1→ ∃A∈ob k1 k2,OnK k1 A∧OnK k2 A∧ta=Re.of em*(pX A-pX P0)∧pa=Re.of es*(pY A-pY P0)):=by
 have eA:Re.of em*rX k1 P0-Re.of em*rX k2 P0=Re.of (em*(k2.x-k1.x)):=by unfold rX;exact(aS fun n=>by simp only[ak,am,aE];grind)
 have eB:Re.of es*rY k1 P0-Re.of es*rY k2 P0=Re.of (es*(k2.y-k1.y)):=by unfold rY;exact(aS fun n=>by simp only[ak,am,aE];grind)
 rw[eA,eB]
 have eT:Re.of (em*(k2.x-k1.x))*(Re.of es*rY k1 P0)-Re.of (es*(k2.y-k1.y))*(Re.of em*rX k1 P0)=Re.of (em*es/2)*tL (mN k1 k2) k1 P0:=by
  unfold tL mN;exact(aS fun n=>by simp only[ak,am,aE];grind)
 rw[eT]
 by_cases hc:tg k1 k2=true∨aw (tL (mN k1 k2) k1 P0)=0
 ·refine⟨Re.of 0,Re.of 0,?_,?_,fun h=>absurd h (by rw[cj];decide+kernel)⟩
  ·have z:aw (Re.of (es*(k2.y-k1.y))*(Re.of (em*es/2)*tL (mN k1 k2) k1 P0))=0:=by
    rcases hc with hc|hc
    ·have:k2.y=k1.y:=by unfold tg at hc;rw[dT] at hc;exact(OV hc.2).symm
     rw[this,show es*(k1.y-k1.y)=0 by grind,aQ,cj,gF,nu]
    ·exact b9 _ (b9 _ hc)
   rw[show ∀n x:Re,Re.of 0*n-(x+x)= -(x+x) from fun n x=>(aS fun n=>by simp only[ao,ak,am,aE,aD];grind)]
   exact wz (ns z z)
  ·have z:aw (Re.of (em*(k2.x-k1.x))*(Re.of (em*es/2)*tL (mN k1 k2) k1 P0))=0:=by
    rcases hc with hc|hc
    ·have:k2.x=k1.x:=by unfold tg at hc;rw[dT] at hc;exact(OV hc.1).symm
     rw[this,show em*(k1.x-k1.x)=0 by grind,aQ,cj,gF,nu]
    ·exact b9 _ (b9 _ hc)
   rw[show ∀n x:Re,Re.of 0*n+(x+x)=x+x from fun n x=>(aS fun n=>by simp only[ao,am,aE];grind)]
   exact ns z z
 ·have hcf:tg k1 k2=false:=by
   cases h:tg k1 k2 with
   |true=>exact absurd (.inl h) hc
   |false=>rfl
  have gl:=FC hk1 hk2 hcf
  have n1:=ow o1
  have n2:=ow o2
  have hl:aw (sj (mN k1 k2) P0)=0:=by
   rw[show sj (mN k1 k2) P0=ri k1 P0-ri k2 P0 from by unfold sj mN ri IZ;exact(aS fun n=>by simp only[ao,ak,am,aE];grind)]
   exact fA n1 n2
  obtain⟨A,hA,g1,g2,r,hr,hL⟩:=GJ gl.n o1 hl (fun h=>hc (.inr h))
  have gA:=rl gl hk1 A hA
  obtain⟨onA,lA⟩:=R5 gl.n hL hr
  have onA2:aw (ri k2 A)=0:=by
   rw[show ri k2 A=ri k1 A-sj (mN k1 k2) A from by unfold sj mN ri IZ;exact(aS fun n=>by simp only[ao,ak,am,aE];grind)]
   exact fA onA lA
  refine⟨Re.of em*(pX A-pX P0),Re.of es*(pY A-pY P0),?_,?_,fun _=>⟨A,by rw[(IQ hcf).1];exact hA,⟨gA,by rw[q7 gA,onA];rfl⟩,⟨gA,by rw[q7 gA,onA2];rfl⟩,rfl,rfl⟩⟩
  ·rw[show Re.of em*(pX A-pX P0)*(Re.of (em*(k2.x-k1.x))*Re.of (em*(k2.x-k1.x))+Re.of (es*(k2.y-k1.y))*Re.of (es*(k2.y-k1.y)))-(Re.of (es*(k2.y-k1.y))*(Re.of (em*es/2)*tL (mN k1 k2) k1 P0)+Re.of (es*(k2.y-k1.y))*(Re.of (em*es/2)*tL (mN k1 k2) k1 P0))=
    Re.of (em/4)*((pX A-pX P0)*Re.of (dE (mN k1 k2))-(Re.of (mN k1 k2).b*tL (mN k1 k2) k1 P0+Re.of (mN k1 k2).b*tL (mN k1 k2) k1 P0)) from by
     unfold dE mN;exact(aS fun n=>by simp only[ao,ak,am,aE];grind)]
   exact b9 _ g1
  ·rw[show Re.of es*(pY A-pY P0)*(Re.of (em*(k2.x-k1.x))*Re.of (em*(k2.x-k1.x))+Re.of (es*(k2.y-k1.y))*Re.of (es*(k2.y-k1.y)))+(Re.of (em*(k2.x-k1.x))*(Re.of (em*es/2)*tL (mN k1 k2) k1 P0)+Re.of (em*(k2.x-k1.x))*(Re.of (em*es/2)*tL (mN k1 k2) k1 P0))=
    Re.of (es/4)*((pY A-pY P0)*Re.of (dE (mN k1 k2))+(Re.of (mN k1 k2).a*tL (mN k1 k2) k1 P0+Re.of (mN k1 k2).a*tL (mN k1 k2) k1 P0)) from by
     unfold dE mN;exact(aS fun n=>by simp only[ao,ak,am,aE];grind)]
   exact b9 _ g2
theorem nM {y:Re}(h:aw x=0) (e:y=x):aw y=0:=by rw[e];exact h
theorem YR (w:Bool):sW w*sW w=1:=RC w
section
variable {k1 k2:Ci}{w1 w2:Bool}{f1 t1 f2 t2 P0 P0' P1 P2 Q:Pt}{X:Re}{em:Rat}{side n:Int}(hk1:GK k1) (hk2:GK k2) (hside:em=1∧side=1∨em= -1∧side= -1) (o1:OnK k1 P0) (o2':OnK k2 P0') (e0:cP P0 P0'=0)
 (oP1:aw (ri k1 P1)=0) (oP2:aw (ri k2 P2)=0) (x1:aw (pX P1-X)=0) (x2:aw (pX P2-X)=0) (ht:aw (Re.of em*(X-pX P0))=1) (oQ:OnK k1 Q) (hQ:aw (Re.of em*(pX Q-X))=1)
 (u1:0≤sH w1*aw (rY k1 P0)) (u2:0≤sH w2*aw (rY k2 P0)) (v1:0≤sH w1*aw (rY k1 P1)) (v2:0≤sH w2*aw (rY k2 P2))
 (nx: ∀A∈ob k1 k2,OnK k1 A→OnK k2 A→0≤sH w1*aw (rY k1 A)→0≤sH w2*aw (rY k2 A)→aw (Re.of em*(pX A-pX P0))=1→0≤aw (Re.of em*(X-pX A))→False)
 (hn:wW (.arc k1 w1 f1 t1) (.arc k2 w2 f2 t2) ((Cv.arc k1 w1 f1 t1).slp P0) ((Cv.arc k2 w2 f2 t2).slp P0') side=n)
include hk1 hk2 hside o1 o2' e0 oP1 oP2 x1 x2 ht oQ hQ u1 u2 v1 v2 nx hn
theorem Qg:aw (pY P1-pY P2)=n:=by
 have em2:em*em=1:=by rcases hside with⟨rfl,_⟩|⟨rfl,_⟩<;>decide+kernel
 have o2:=OY o1.1 o2' e0
 have N1:=Tj em2 (YR w1) o1 oP1 x1
 have N2:=Tj em2 (YR w1) o2 oP2 x2
 have rel:=S4 hside o1 o2' e0 ht N1 N2 u1 u2 hn (D:=Re.of em*rX k2 P0*(Re.of (sW w1)*rY k1 P0)-Re.of (sW w1)*rY k2 P0*(Re.of em*rX k1 P0)) rfl
 obtain⟨ta,pa,hx,hy,hA⟩:=Z9 hk1 hk2 o1 o2 em2 (YR w1)
 have hw:=T6 w1
 have B1:0≤aw (Re.of (sW w1)*rY k1 P0):=by rw[wP];exact u1
 have C1:0≤aw (Re.of (sW w1)*rY k1 P0+Re.of (sW w1)*(pY P1-pY P0)):=by rw[show Re.of (sW w1)*rY k1 P0+Re.of (sW w1)*(pY P1-pY P0)=Re.of (sW w1)*rY k1 P1 from by unfold rY;exact(aS fun n=>by simp only[ao,ak,am,aE]<;>grind),wP];exact v1
 have eB2:Re.of (sW w1)*rY k2 P0+Re.of (sW w1)*(pY P2-pY P0)=Re.of (sW w1)*rY k2 P2:=by unfold rY;exact(aS fun n=>by simp only[ao,ak,am,aE]<;>grind)
 have eP:aw (Re.of (sW w1)*(pY P1-pY P0)-Re.of (sW w1)*(pY P2-pY P0))=sH w1*aw (pY P1-pY P2):=by rw[←wP];exact congrArg aw (aS fun n=>by simp only[ak,am,aE]<;>grind)
 have eQ:aw ((Re.of em*rX k1 P0*(Re.of em*rX k1 P0)+Re.of (sW w1)*rY k1 P0*(Re.of (sW w1)*rY k1 P0))-(Re.of em*rX k2 P0*(Re.of em*rX k2 P0)+Re.of (sW w1)*rY k2 P0*(Re.of (sW w1)*rY k2 P0)))=aR k1.q k2.q:=by
  have g1:=T7 o1
  have g2:=T7 o2
  rw[xT]
  have hs2:=YR w1
  exact dN (z:=((pX P0-Re.of k1.x)*(pX P0-Re.of k1.x)+(pY P0-Re.of k1.y)*(pY P0-Re.of k1.y)-Re.of k1.q)-((pX P0-Re.of k2.x)*(pX P0-Re.of k2.x)+(pY P0-Re.of k2.y)*(pY P0-Re.of k2.y)-Re.of k2.q)) (by unfold rX rY;exact(aS fun n=>by simp only[ao,ak,am,aE]<;>grind)) (fA g1 g2)
 have eQ2:aw ((Re.of em*rX k2 P0*(Re.of em*rX k2 P0)+Re.of (sW w1)*rY k2 P0*(Re.of (sW w1)*rY k2 P0))-(Re.of em*rX k1 P0*(Re.of em*rX k1 P0)+Re.of (sW w1)*rY k1 P0*(Re.of (sW w1)*rY k1 P0)))= -aR k1.q k2.q:=by rw[jy,eQ]
 have eT: ∀A,ta=Re.of em*(pX A-pX P0)→Re.of em*(X-pX P0)-ta=Re.of em*(X-pX A):=fun A h=>by rw[h];exact(aS fun n=>by simp only[ak,am,aE]<;>grind)
 have eb1: ∀A,pa=Re.of (sW w1)*(pY A-pY P0)→aw (Re.of (sW w1)*rY k1 P0+pa)=sH w1*aw (rY k1 A):=fun A h=>by rw[←wP,h];exact congrArg aw (by unfold rY;exact(aS fun n=>by simp only[ao,ak,am,aE]<;>grind))
 have eb2: ∀A,pa=Re.of (sW w1)*(pY A-pY P0)→aw (Re.of (sW w1)*rY k2 P0+pa)=sH w1*aw (rY k2 A):=fun A h=>by rw[←wP,h];exact congrArg aw (by unfold rY;exact(aS fun n=>by simp only[ao,ak,am,aE]<;>grind))
 have fin:aw (Re.of (sW w1)*(pY P1-pY P0)-Re.of (sW w1)*(pY P2-pY P0))*sH w1=n→aw (pY P1-pY P2)=n:=fun h=>by
  rw[eP] at h
  rcases hw with e|e<;>rw[e] at h<;>omega
 apply fin
 by_cases hww:w1=w2
 ·obtain⟨r1,r2,r3⟩:=rel.1 hww
  have hs:sH w2=sH w1:=by rw[hww]
  rw[hs] at u2 v2 nx
  have B2:0≤aw (Re.of (sW w1)*rY k2 P0):=by rw[wP];exact u2
  have C2:0≤aw (Re.of (sW w1)*rY k2 P0+Re.of (sW w1)*(pY P2-pY P0)):=by rw[eB2,wP];exact v2
  have no: ¬(aw ta=1∧0≤aw (Re.of em*(X-pX P0)-ta)∧0≤aw (Re.of (sW w1)*rY k1 P0+pa)∧0≤aw (Re.of (sW w1)*rY k2 P0+pa)):=fun⟨g1,g2,g3,g4⟩=>by
   obtain⟨A,mA,oA1,oA2,e1,e2⟩:=hA g1
   refine nx A mA oA1 oA2 ?_ ?_ (by rw[←e1];exact g1) (by rw[←eT A e1];exact g2)
   ·rw[←eb1 A e2];exact g3
   ·rw[←eb2 A e2];exact g4
  have one:aw (Re.of em*rX k2 P0*(Re.of (sW w1)*rY k1 P0)-Re.of (sW w1)*rY k2 P0*(Re.of em*rX k1 P0))=1∨aw (Re.of em*rX k2 P0*(Re.of (sW w1)*rY k1 P0)-Re.of (sW w1)*rY k2 P0*(Re.of em*rX k1 P0))=0∧aR k1.q k2.q=1→aw (Re.of (sW w1)*(pY P1-pY P0)-Re.of (sW w1)*(pY P2-pY P0))=1:=fun h=>
   (Er (ta:=ta) (pa:=pa) ht N1 N2 B1 B2 C1 C2 (by rw[eQ];exact h) rfl (nM hx (aS fun n=>by simp only[ao,ak,am,aE]<;>grind)) (nM hy (aS fun n=>by simp only[ao,ak,am,aE]<;>grind))).resolve_right fun g=>no g.2
  have two:aw (Re.of em*rX k2 P0*(Re.of (sW w1)*rY k1 P0)-Re.of (sW w1)*rY k2 P0*(Re.of em*rX k1 P0))= -1∨aw (Re.of em*rX k2 P0*(Re.of (sW w1)*rY k1 P0)-Re.of (sW w1)*rY k2 P0*(Re.of em*rX k1 P0))=0∧aR k1.q k2.q= -1→aw (Re.of (sW w1)*(pY P1-pY P0)-Re.of (sW w1)*(pY P2-pY P0))= -1:=fun h=>by
   have h1:=(Er (ta:=ta) (pa:=pa) ht N2 N1 B2 B1 C2 C1 (by
    rw[show Re.of em*rX k1 P0*(Re.of (sW w1)*rY k2 P0)-Re.of (sW w1)*rY k1 P0*(Re.of em*rX k2 P0)= -(Re.of em*rX k2 P0*(Re.of (sW w1)*rY k1 P0)-Re.of (sW w1)*rY k2 P0*(Re.of em*rX k1 P0)) from(aS fun n=>by simp only[ak,am,aE,aD]<;>grind),br,eQ2]
    rcases h with h|⟨h,g⟩
    ·left;omega
    ·right;omega) rfl (nM hx (aS fun n=>by simp only[ao,ak,am,aE]<;>grind)) (nM hy (aS fun n=>by simp only[ao,ak,am,aE]<;>grind))).resolve_right fun g=>no ⟨g.2.1,g.2.2.1,g.2.2.2.2,g.2.2.2.1⟩
   rw[jy] at h1;omega
  rcases aU (Re.of em*rX k2 P0*(Re.of (sW w1)*rY k1 P0)-Re.of (sW w1)*rY k2 P0*(Re.of em*rX k1 P0)) with d|d|d
  ·rw[one (.inl d),r1 d];omega
  ·rw[r3 d]
   have hc:=dK k1.q k2.q
   rcases(show aR k1.q k2.q=1∨aR k1.q k2.q=0∨aR k1.q k2.q= -1 by omega) with c|c|c
   ·rw[one (.inr ⟨d,c⟩),c];omega
   ·rw[Nd ht N1 N2 B1 B2 C1 C2 d (by rw[eQ];exact c),c];omega
   ·rw[two (.inr ⟨d,c⟩),c];omega
  ·rw[two (.inl d),r2 d];omega
 ·obtain⟨r1,r2⟩:=rel.2 hww
  have hs:=Z3 hww
  rw[hs] at u2 v2 nx
  have B2:0≤aw (-(Re.of (sW w1)*rY k2 P0)):=by rw[br,wP];rcases hw with e|e<;>rw[e] at u2⊢ <;>omega
  have C2:0≤aw (-(Re.of (sW w1)*rY k2 P0+Re.of (sW w1)*(pY P2-pY P0))):=by rw[eB2,br,wP];rcases hw with e|e<;>rw[e] at v2⊢ <;>omega
  have zz: ∀x:Re,aw (Re.of (sW w1)*x)=0↔aw x=0:=fun x=>by
   rw[wP];rcases hw with e|e<;>rw[e]<;>constructor<;>intro h<;>omega
  by_cases hd:aw (Re.of em*rX k2 P0*(Re.of (sW w1)*rY k1 P0)-Re.of (sW w1)*rY k2 P0*(Re.of em*rX k1 P0))= -1∨aw (rY k1 P0)=0∧aw (rY k2 P0)=0
  ·have far:=X9 ht N1 (u:=Re.of em*(pX Q-pX P0)) (by rw[show Re.of em*(pX Q-pX P0)-Re.of em*(X-pX P0)=Re.of em*(pX Q-X) from(aS fun n=>by simp only[ak,am,aE]<;>grind)];exact hQ) (Tj em2 (YR w1) o1 (ow oQ) (X:=pX Q) (lK _))
   have h1:=(Nw (ta:=ta) (pa:=pa) ht N1 N2 B1 B2 C1 C2 (hd.imp id fun g=>⟨(zz _).2 g.1,(zz _).2 g.2⟩) far rfl (nM hx (aS fun n=>by simp only[ao,ak,am,aE]<;>grind)) (nM hy (aS fun n=>by simp only[ao,ak,am,aE]<;>grind))).resolve_right fun⟨_,g1,g2,g3,g4⟩=>by
    obtain⟨A,mA,oA1,oA2,e1,e2⟩:=hA g1
    refine nx A mA oA1 oA2 ?_ ?_ (by rw[←e1];exact g1) (by rw[←eT A e1];exact g2)
    ·rw[←eb1 A e2];exact g3
    ·rw[br,eb2 A e2] at g4
     rcases hw with e|e<;>rw[e] at g4⊢ <;>omega
   rw[h1,r1 hd];omega
  ·have d0:0≤aw (Re.of em*rX k2 P0*(Re.of (sW w1)*rY k1 P0)-Re.of (sW w1)*rY k2 P0*(Re.of em*rX k1 P0)):=by
    rcases aU (Re.of em*rX k2 P0*(Re.of (sW w1)*rY k1 P0)-Re.of (sW w1)*rY k2 P0*(Re.of em*rX k1 P0)) with d|d|d
    ·omega
    ·omega
    ·exact absurd (.inl d) hd
   have hb: ¬(aw (rY k1 P0)=0∧aw (rY k2 P0)=0):=fun g=>hd (.inr g)
   rw[No ht N1 N2 B1 B2 d0 (by
    rcases Classical.em (aw (rY k1 P0)=0) with g|g
    ·grind
    ·exact .inl fun h=>g ((zz _).1 h)),r2 d0 hb];omega
end
theorem Ob (hb:l.b≠0):aw (Re.of l.b)*aw (Re.of l.b)=1:=by
 have h:=zZ (x:=Re.of l.b) (by rw[cj];exact fun e=>hb (ij.1 e))
 rw[aQ] at h;exact h
section
variable {k:Ci}{w:Bool}{l:Ln}{f1 t1 f2 t2 P0 P0' P1 P2:Pt}{X:Re}{em:Rat}{side n:Int}(hk:GK k) (hl:GL l) (hb:l.b≠0) (hside:em=1∧side=1∨em= -1∧side= -1) (o1:OnK k P0) (l0:aw (sj l P0)=0)
 (oP1:aw (ri k P1)=0) (l2:aw (sj l P2)=0) (x1:aw (pX P1-X)=0) (x2:aw (pX P2-X)=0) (ht:aw (Re.of em*(X-pX P0))=1)
 (u1:0≤sH w*aw (rY k P0)) (v1:0≤sH w*aw (rY k P1))
 (nx: ∀A∈iu l k,OnK k A→aw (sj l A)=0→0≤sH w*aw (rY k A)→aw (Re.of em*(pX A-pX P0))=1→0≤aw (Re.of em*(X-pX A))→False)
 (hn:wW (.arc k w f1 t1) (.seg l f2 t2) ((Cv.arc k w f1 t1).slp P0) ((Cv.seg l f2 t2).slp P0') side=n)
include hk hl hb hside o1 l0 oP1 l2 x1 x2 ht u1 v1 nx hn
theorem Il:aw (pY P1-pY P2)=n:=by
 have em2:em*em=1:=by rcases hside with⟨rfl,_⟩|⟨rfl,_⟩<;>decide+kernel
 have m1:aw (Re.of em)=side:=by rcases hside with⟨rfl,rfl⟩|⟨rfl,rfl⟩<;>(rw[cj];decide+kernel)
 have m2:side=1∨side= -1:=by rcases hside with⟨_,h⟩|⟨_,h⟩<;>omega
 have es2:=YR w
 have hw:=T6 w
 have hlb:=Ob hb
 have N1:=Tj em2 es2 o1 oP1 x1
 have B1:0≤aw (Re.of (sW w)*rY k P0):=by rw[wP];exact u1
 have C1:0≤aw (Re.of (sW w)*rY k P0+Re.of (sW w)*(pY P1-pY P0)):=by rw[show Re.of (sW w)*rY k P0+Re.of (sW w)*(pY P1-pY P0)=Re.of (sW w)*rY k P1 from by unfold rY;exact(aS fun n=>by simp only[ao,ak,am,aE]<;>grind),wP];exact v1
 have hB:aw (Re.of (sW w*l.b))≠0:=by
  rw[←fK,aQ,Ma]
  intro h
  rcases hw with e|e<;>rw[e] at h<;>(rw[show aw (Re.of l.b)=0 by omega] at hlb;exact absurd hlb (by decide))
 have eS:aw (Re.of (sW w*l.b)*(Re.of (em*l.a)*(Re.of em*(X-pX P0))+Re.of (sW w*l.b)*(Re.of (sW w)*(pY P1-pY P0))))=sH w*aw (pY P1-pY P2):=by
  rw[dN (y:=Re.of (sW w)*(Re.of l.b*Re.of l.b*(pY P1-pY P2))) (z:=Re.of (sW w*l.b)*((sj l P2-sj l P0)-Re.of l.a*(pX P2-X))) (by unfold sj;exact(aS fun n=>by simp only[ao,ak,am,aE]<;>grind)) (b9 _ (fA (fA l2 l0) (b9 _ x2))),wP,aQ,aQ,hlb,m8]
 have eG:aw (Re.of (sW w*l.b)*(Re.of (em*l.a)*(Re.of (sW w)*rY k P0)-Re.of (sW w*l.b)*(Re.of em*rX k P0)))=aw (Re.of em*Re.of l.b*tL l k P0):=congrArg aw (by unfold tL;exact(aS fun n=>by simp only[ak,am,aE]<;>grind))
 have s1:jL P0 k.y=aw (rY k P0):=(DO (b8 o1)).symm
 have e1:(Cv.arc k w f1 t1).slp P0=if jL P0 k.y=0 then .st (sH w) else .vl (tO k P0) (jB k P0) (zc (jB k P0) P0.c):=rfl
 have e2:(Cv.seg l f2 t2).slp P0'=.vl (-l.a/l.b) 0 0:=if_neg hb
 have rule:(aw (Re.of (sW w*l.b)*(Re.of (em*l.a)*(Re.of (sW w)*rY k P0)-Re.of (sW w*l.b)*(Re.of em*rX k P0)))=1→n=sH w)∧(aw (Re.of (sW w*l.b)*(Re.of (em*l.a)*(Re.of (sW w)*rY k P0)-Re.of (sW w*l.b)*(Re.of em*rX k P0)))≤0→n= -sH w):=by
  rw[e1,e2,s1] at hn
  by_cases z:aw (rY k P0)=0
  ·have a1:=yj ht N1 (by rw[wP,z,mH])
   have g1:aw (Re.of (sW w*l.b)*(Re.of (em*l.a)*(Re.of (sW w)*rY k P0)-Re.of (sW w*l.b)*(Re.of em*rX k P0)))=1:=by
    rw[dN (y:= -(Re.of l.b*Re.of l.b*(Re.of em*rX k P0))) (z:=Re.of em*Re.of l.b*Re.of l.a*rY k P0) (aS fun n=>by simp only[ak,am,aE,aD]<;>grind) (b9 _ z),br,aQ,aQ,hlb,a1];rfl
   rw[if_pos z] at hn
   refine⟨fun _=>?_,fun h=>by omega⟩
   rw[←hn]
   cases w<;>simp[wW,rk,sH]
  ·rw[if_neg z] at hn
   have hn2:(if jm (tO k P0- -l.a/l.b) (jB k P0) (-0) 0 (zc (jB k P0) P0.c) 0=0 then ph (.arc k w f1 t1) (.seg l f2 t2) else side*jm (tO k P0- -l.a/l.b) (jB k P0) (-0) 0 (zc (jB k P0) P0.c) 0)=n:=
    ((if_neg (show ¬((0:Int)<0) by decide)).trans (if_neg (show ¬((0:Int)>0) by decide))).symm.trans hn
   have v:=Fw (k:=k) o1.1 (by rw[s1];exact z)
   rw[kX (ii (b8 o1)) uC] at hn2
   have v':aw (aA (tO k P0) (jB k P0) (zc (jB k P0) P0.c)*rY k P0+rX k P0)=0:=v
   have ec:ph (.arc k w f1 t1) (.seg l f2 t2)= -sH w:=by cases w<;>simp[ph,Cv.bnd,sH]
   generalize aA (tO k P0) (jB k P0) (zc (jB k P0) P0.c)=V at*
   have em3: -l.a/l.b*l.b= -l.a:=tH hb
   have g1:aw (Re.of (sW w*l.b)*(Re.of (em*l.a)*(Re.of (sW w)*rY k P0)-Re.of (sW w*l.b)*(Re.of em*rX k P0)))=side*sH w*(sH w*aw (rY k P0))*aw (V-aA (-l.a/l.b) 0 0):=by
    have e3:aA (-l.a/l.b) 0 0=Re.of (-l.a/l.b):=aS fun n=>by unfold aA;simp only[ao,am,aE]<;>grind
    rw[e3,eG]
    generalize-l.a/l.b=m at*
    rw[dN (y:=Re.of em*(Re.of l.b*Re.of l.b*(rY k P0*(V-Re.of m)))) (z:= -(Re.of em*Re.of l.b*Re.of l.b*(V*rY k P0+rX k P0))) (by unfold tL;rw[show l.a= -(m*l.b) by grind];exact(aS fun n=>by simp only[ao,ak,am,aE,aD]<;>grind)) (wz (b9 _ v')),aQ,aQ,aQ,aQ,m1,hlb]
    rcases hw with e|e<;>rw[e]<;>(rcases m2 with q|q<;>rw[q]<;>(rcases aU (rY k P0) with g|g|g<;>rw[g]<;>omega))
   have yy:sH w*aw (rY k P0)=1:=by
    have:=aU (rY k P0)
    rcases hw with e|e<;>rw[e] at u1⊢ <;>omega
   rw[yy] at g1
   rw[ec] at hn2
   have hV:=aU (V-aA (-l.a/l.b) 0 0)
   rcases hV with h|h|h<;>rw[h] at hn2 g1
   ·rw[if_neg (by decide)] at hn2
    refine⟨fun q=>?_,fun q=>?_⟩<;>(rcases m2 with e|e<;>rcases hw with f|f<;>rw[e,f] at g1<;>omega)
   ·rw[if_pos rfl] at hn2
    exact⟨fun q=>by omega,fun _=>hn2.symm⟩
   ·rw[if_neg (by decide)] at hn2
    refine⟨fun q=>?_,fun q=>?_⟩<;>(rcases m2 with e|e<;>rcases hw with f|f<;>rw[e,f] at g1<;>omega)
 rcases aU (Re.of (sW w*l.b)*(Re.of (em*l.a)*(Re.of (sW w)*rY k P0)-Re.of (sW w*l.b)*(Re.of em*rX k P0))) with g|g|g
 ·rw[rule.1 g]
  have hT:aw (tL l k P0)≠0:=fun h=>by rw[eG,aQ,h] at g;omega
  obtain⟨A,mA,g1,g2,r,hr,hL⟩:=GJ hl.n o1 l0 hT
  have gA:=rl hl hk A mA
  obtain⟨onA,lA⟩:=R5 hl.n hL hr
  have hS: ¬aw (Re.of (sW w*l.b)*(Re.of (em*l.a)*(Re.of em*(X-pX P0))+Re.of (sW w*l.b)*(Re.of (sW w)*(pY P1-pY P0))))≤0:=fun hs=>by
   obtain⟨c1,c2,c3⟩:=B4 (ta:=Re.of em*(pX A-pX P0)) (pa:=Re.of (sW w)*(pY A-pY P0)) ht N1 B1 C1 rfl
    (by
     refine nM (b9 (Re.of em) g1) ?_
     unfold tL dE;exact(aS fun n=>by simp only[ao,ak,am,aE]<;>grind))
    (by
     refine nM (b9 (Re.of (sW w)) g2) ?_
     unfold tL dE;exact(aS fun n=>by simp only[ao,ak,am,aE]<;>grind)) g hs
   refine nx A mA ⟨gA,by rw[q7 gA,onA];rfl⟩ lA ?_ c1 (by rw[show Re.of em*(X-pX A)=Re.of em*(X-pX P0)-Re.of em*(pX A-pX P0) from(aS fun n=>by simp only[ak,am,aE]<;>grind)];exact c2)
   rw[show Re.of (sW w)*rY k P0+Re.of (sW w)*(pY A-pY P0)=Re.of (sW w)*rY k A from by unfold rY;exact(aS fun n=>by simp only[ao,ak,am,aE]<;>grind),wP] at c3;exact c3
  rw[eS] at hS
  have:=aU (pY P1-pY P2)
  rcases hw with e|e<;>rw[e] at hS⊢ <;>omega
 ·have h1:=CA (A:=Re.of (em*l.a)) (B:=Re.of (sW w*l.b)) ht N1 B1 (by omega) hB
  grind
 ·have h1:=CA (A:=Re.of (em*l.a)) (B:=Re.of (sW w*l.b)) ht N1 B1 (by omega) hB
  grind
end
theorem Mi {m:Ln}{P0' P1 P2:Pt}{side n:Int}(hb:l.b≠0) (hb2:m.b≠0) (hside:em=1∧side=1∨em= -1∧side= -1) (l0:aw (sj l P0)=0) (m0:aw (sj m P0)=0)
 (l1:aw (sj l P1)=0) (l2:aw (sj m P2)=0) (x1:aw (pX P1-X)=0) (x2:aw (pX P2-X)=0) (ht:aw (Re.of em*(X-pX P0))=1)
 (hn:wW (.seg l f1 t1) (.seg m f2 t2) ((Cv.seg l f1 t1).slp P0) ((Cv.seg m f2 t2).slp P0') side=n):aw (pY P1-pY P2)=n:=by
 have m1:aw (Re.of em)=side:=by rcases hside with⟨rfl,rfl⟩|⟨rfl,rfl⟩<;>(rw[cj];decide+kernel)
 have e1:(Cv.seg l f1 t1).slp P0=.vl (-l.a/l.b) 0 0:=if_neg hb
 have e2:(Cv.seg m f2 t2).slp P0'=.vl (-m.a/m.b) 0 0:=if_neg hb2
 rw[e1,e2] at hn
 have hn2:(if jm (-l.a/l.b- -m.a/m.b) 0 (-0) 0 0 0=0 then ph (.seg l f1 t1) (.seg m f2 t2) else side*jm (-l.a/l.b- -m.a/m.b) 0 (-0) 0 0 0)=n:=
  ((if_neg (show ¬((0:Int)<0) by decide)).trans (if_neg (show ¬((0:Int)>0) by decide))).symm.trans hn
 rw[kX uC uC] at hn2
 have ec:ph (.seg l f1 t1) (.seg m f2 t2)=0:=by simp[ph,Cv.bnd]
 have e3: ∀v:Rat,aA v 0 0=Re.of v:=fun v=>aS fun n=>by unfold aA;simp only[ao,am,aE]<;>grind
 rw[e3,e3] at hn2
 have q1: -l.a/l.b*l.b= -l.a:=by grind
 have q2: -m.a/m.b*m.b= -m.a:=by grind
 generalize-l.a/l.b=u at*
 generalize-m.a/m.b=v at*
 have hlb:=Ob hb
 have hmb:=Ob hb2
 have key:aw (pY P1-pY P2)=aw ((X-pX P0)*(Re.of u-Re.of v)):=by
  have h1:aw (Re.of l.b*Re.of l.b*(Re.of m.b*Re.of m.b)*(pY P1-pY P2))=aw (Re.of l.b*Re.of l.b*(Re.of m.b*Re.of m.b)*((X-pX P0)*(Re.of u-Re.of v))):=
   dN (z:=Re.of (l.b*m.b*m.b)*((sj l P1-sj l P0)-Re.of l.a*(pX P1-X))-Re.of (l.b*l.b*m.b)*((sj m P2-sj m P0)-Re.of m.a*(pX P2-X))) (by
    unfold sj
    exact(aS fun n=>by simp only[ao,ak,am,aE]<;>grind)) (fA (b9 _ (fA (fA l1 l0) (b9 _ x1))) (b9 _ (fA (fA l2 m0) (b9 _ x2))))
  rw[aQ,aQ,aQ,aQ,hlb,hmb] at h1
  rw[aQ (Re.of l.b*Re.of l.b*(Re.of m.b*Re.of m.b)),aQ,aQ,aQ,hlb,hmb] at h1
  omega
 rw[aQ,m1] at ht
 rw[key,aQ]
 rcases aU (Re.of u-Re.of v) with h|h|h<;>rw[h] at hn2⊢
 ·grind
 ·grind
 grind
def Cv.hf:Cv→Pt→Prop
 | .seg _ _ _,_=>True
 | .arc k w _ _,p=>0≤sH w*aw (rY k p)
def Cv.nul:Cv→Pt→Prop
 | .seg l _ _,p=>aw (sj l p)=0
 | .arc k _ _ _,p=>aw (ri k p)=0
def Cv.flat:Cv→Prop
 | .seg l _ _=>l.b≠0
 | .arc _ _ _ _=>True
theorem Ka (x:Re):aw (Re.of 1*x)=aw x:=by rw[show Re.of 1*x=x from(aS fun n=>by simp only[am,aE]<;>grind)]
theorem F5 (x:Re):aw (Re.of (-1)*x)= -aw x:=by rw[show Re.of (-1)*x= -x from(aS fun n=>by simp only[am,aE,aD]<;>grind),br]
theorem AZ (hp:GP p) (h:(j6 l p==0)=true):aw (sj l p)=0:=by rw[←vk hp];exact beq_iff_eq.1 h
theorem Fu (hp:GP p) (hq:GP q) (e:cP p q=0) (h:aw (sj l q)=0):aw (sj l p)=0:=by
 obtain⟨a,b⟩:=vW hp hq e
 refine nM (ns h (ns (b9 (Re.of l.a) a) (b9 (Re.of l.b) b))) ?_
 unfold sj;exact(aS fun n=>by simp only[ao,ak,am,aE]<;>grind)
section
variable {c d:Cv}{P0 P0' P1 P2 Q Q':Pt}{X:Re}{em:Rat}{side n:Int}(vc:CvV c) (vd:CvV d) (fc:c.flat) (fd:d.flat) (hside:em=1∧side=1∨em= -1∧side= -1) (g0:GP P0) (g0':GP P0') (s0:c.supp P0=true) (s0':d.supp P0'=true) (e0:cP P0 P0'=0)
 (z1:c.nul P1) (z2:d.nul P2) (x1:aw (pX P1-X)=0) (x2:aw (pX P2-X)=0) (ht:aw (Re.of em*(X-pX P0))=1) (gQ:GP Q) (sQ:c.supp Q=true) (hQ:aw (Re.of em*(pX Q-X))=1)
 (u1:c.hf P0) (u2:d.hf P0') (v1:c.hf P1) (v2:d.hf P2)
 (nx: ∀A∈j9 c d,GP A→c.supp A=true→d.supp A=true→c.hf A→d.hf A→aw (Re.of em*(pX A-pX P0))=1→0≤aw (Re.of em*(X-pX A))→False)
 (hn:wW c d (c.slp P0) (d.slp P0') side=n)
include vc vd fc fd hside g0 g0' s0 s0' e0 z1 z2 x1 x2 ht gQ sQ hQ u1 u2 v1 v2 nx hn
theorem KY:aw (pY P1-pY P2)=n:=by
 cases c with
 |arc k w f t=>
  have o1:OnK k P0:=⟨g0,bD.1 s0⟩
  cases d with
  |arc k2 w2 f2 t2=>
   have o2':OnK k2 P0':=⟨g0',bD.1 s0'⟩
   have u2':0≤sH w2*aw (rY k2 P0):=by
    have h:0≤sH w2*aw (rY k2 P0'):=u2
    rw[DO (bz g0')] at h
    rw[DO (bz g0),Bh (bz g0) (bz g0') e0];exact h
   exact Qg vc.g.1 vd.g.1 hside o1 o2' e0 z1 z2 x1 x2 ht ⟨gQ,bD.1 sQ⟩ hQ u1 u2' v1 v2 (fun A mA oA1 oA2 h1 h2 h3 h4=>nx A mA oA1.1 (bD.2 oA1.2) (bD.2 oA2.2) h1 h2 h3 h4) hn
  |seg l f2 t2=>
   have l0:=Fu g0 g0' e0 (AZ g0' s0')
   exact Il vc.g.1 vd.g.1 fd hside o1 l0 z1 z2 x1 x2 ht u1 v1 (fun A mA oA hl h1 h3 h4=>nx A mA oA.1 (bD.2 oA.2) (by show(j6 l A==0)=true;rw[vk oA.1,hl];rfl) h1 trivial h3 h4) hn
 |seg l f t=>
  cases d with
  |arc k w f2 t2=>
   have o1:OnK k P0':=⟨g0',bD.1 s0'⟩
   have ha:cP P0' P0=0:=by rw[eo (bz g0) (bz g0'),e0];rfl
   obtain⟨hx,_⟩:=vW g0 g0' e0
   have hm:=OE (c:=.seg l f t) (d:=.arc k w f2 t2) (Oo vc.g g0) (Oo vd.g g0') (show side=1∨side= -1 by rcases hside with h|h<;>omega) Jg Jg
   have tr: ∀Y:Re,aw (Re.of em*(Y-pX P0'))=aw (Re.of em*(Y-pX P0)):=fun Y=>dN (z:=Re.of em*(pX P0-pX P0')) (aS fun n=>by simp only[ak,am,aE]<;>grind) (b9 _ hx)
   have h:=Il (n:= -n) (P0':=P0) (f1:=f2) (t1:=t2) (f2:=f) (t2:=t) vd.g.1 vc.g.1 fc hside o1 (Fu g0' g0 ha (AZ g0 s0)) z2 z1 x2 x1 (by rw[tr];exact ht) u2 v2 (fun A mA oA hl h1 h3 h4=>nx A mA oA.1 (by show(j6 l A==0)=true;rw[vk oA.1,hl];rfl) (bD.2 oA.2) trivial h1 (by rw[←tr];exact h3) h4) (by rw[←hn];exact hm)
   rw[jy];omega
  |seg m f2 t2=>
   exact Mi fc fd hside (AZ g0 s0) (Fu g0 g0' e0 (AZ g0' s0')) z1 z2 x1 x2 ht hn
end
theorem Fq (vc:CvV c) (hm:c.mono=true) (gp:GP p) (hs:c.supp p=true) (hf:c.hf p) (h1:cx c.p p<0) (h2:cx p c.q<0):c.on p=true:=by
 cases c with
 |seg l f t=>
  have hft:cP f t<0:=by
   have hm:(!decide (cP f t≥0))=true:=hm
   grind
  rw[CH hs]
  rw[L6 hft,L6 hft,MX (by omega),MX (by omega)]
  grind
 |arc k w f t=>
  have h1:cx f p<0:=h1
  have h2:cx p t<0:=h2
  exact(JS vc hm ⟨gp,bD.1 hs⟩).2 ⟨hf,by omega,by omega⟩
theorem xI (vc:CvV c) (h:c.vert=false):c.flat:=by
 cases c with
 |arc k w f t=>trivial
 |seg l f t=>
  intro hb
  have h1:(cx f t==0)=false:=h
  have s1:j6 l f=0:=by have:=vc.sp;simpa [Cv.supp,Cv.p] using this
  have s2:j6 l t=0:=by have:=vc.sq;simpa [Cv.supp,Cv.q] using this
  have:=(B7 vc.g.1 vc.g.2.1 vc.g.2.2 s1 s2 vc.ne).2 hb
  grind
theorem ER (vc:CvV c) (nc:c.vert=false) {x:Rat}(h1:lp c.p x≤0) (h2:0≤lp c.q x):c.nul (r9 c x)∧c.hf (r9 c x)∧0≤(r9 c x).c:=by
 cases c with
 |seg l f t=>
  have hb:l.b≠0:=xI vc nc
  refine⟨?_,trivial,uC⟩
  show aw (sj l (rP x ((l.c-l.a*x)/l.b)))=0
  unfold sj
  rw[Ih,Lk,fK,fK,Fg,uO,cj,show l.a*x+l.b*((l.c-l.a*x)/l.b)-l.c=0 by grind,gF]
 |arc k w f t=>
  have m0:=EF ⟨vc.g.2.1,bD.1 vc.sp⟩ ⟨vc.g.2.2,bD.1 vc.sq⟩ h1 h2
  obtain⟨g1,g2⟩:=ZR (k:=k) (w:=w) (f:=f) (t:=t) m0
  have gx:=Pe (.arc k w f t) x
  refine⟨?_,?_,?_⟩
  ·show aw (ri k (r9 (.arc k w f t) x))=0
   refine nM g1 ?_
   unfold ri jT
   rw[gx];exact(aS fun n=>by simp only[ao,ak,am,aE]<;>grind)
  ·rw[Ma] at g2
   exact g2
  ·show 0≤(fW x 0 k.y (sW w) (jT k x)).c
   unfold fW;split
   ·grind
   grind
section
variable {c d:Cv}{x:Rat}(vc:CvV c) (vd:CvV d) (mc:c.mono=true) (md:d.mono=true) (nc:c.vert=false) (nd:d.vert=false)
include vc vd mc md nc nd
theorem MM (e0:cP c.p d.p=0) (h1:lp c.p x<0) (h2:0<lp c.q x) (h3:0<lp d.q x)
 (nx: ∀A∈j9 c d,GP A→c.on A=true→d.on A=true→cx c.p A<0→cx A c.q<0→cx d.p A<0→cx A d.q<0→False):cy (r9 c x) (r9 d x)=rc c d:=by
 obtain⟨zc,hc1,c01⟩:=ER vc nc (x:=x) (by omega) (by omega)
 obtain⟨zd,hd1,c02⟩:=ER vd nd (x:=x) (by have:=uj (bz (cn vc.g)) (bz (cn vd.g)) e0 x;omega) (by omega)
 have gp:=cn vc.g
 have gq:=dy vc.g
 have gp':=cn vd.g
 have gq':=dy vd.g
 rw[li (bz gp)] at h1
 rw[li (bz gq)] at h2
 rw[li (bz gq')] at h3
 obtain⟨ex,_⟩:=vW gp gp' e0
 have c1:=aU (pX c.p-Re.of x)
 have c2:=aU (pX c.q-Re.of x)
 have c3:=aU (pX d.q-Re.of x)
 have z: ∀e:Cv,aw (pX (r9 e x)-Re.of x)=0:=fun e=>by rw[Pe];exact lK _
 have on0: ∀ {e:Cv},CvV e→e.mono=true→e.hf e.p:=fun{e} ve me=>by
  cases e with
  |seg l f t=>trivial
  |arc k w f t=>
   have hh:=wx ve.g.1 ve.pos ⟨ve.g.2.1,bD.1 ve.sp⟩ ⟨ve.g.2.2,bD.1 ve.sq⟩ me
   refine((JS ve me ⟨ve.g.2.1,bD.1 ve.sp⟩).1 ?_).1
   rw[EH ve me ⟨ve.g.2.1,bD.1 ve.sp⟩]
   have hs:=we (bz ve.g.2.1)
   cases w with
   |true=>rw[if_pos rfl] at hh⊢;exact⟨by rcases hh.2.1 with e|e<;>(rw[e];decide),by show cx f f≤0;omega,by show cx f t≤0;omega⟩
   |false=>
    have ha:=iz (bz ve.g.2.1) (bz ve.g.2.2)
    grind
 rw[EX c01 c02]
 refine KY (X:=Re.of x) (em:=1) (side:=1) (Q:=c.q) vc vd (xI vc nc) (xI vd nd) (.inl ⟨rfl,rfl⟩) gp gp' vc.sp vd.sp e0 zc zd (z c) (z d) (by rw[Ka,jy];omega) gq vc.sq (by rw[Ka];omega)
  (on0 vc mc) (on0 vd md) hc1 hd1 ?_ (by unfold rc;rw[if_pos e0])
 intro A mA gA sA sA' hA hA' k1 k2
 rw[Ka] at k1 k2
 have a1:cx c.p A<0:=by rw[jP (bz gp) (bz gA),jy];omega
 have up: ∀q:Pt,GP q→aw (pX q-Re.of x)=1→cx A q<0:=fun q gq h=>by
  rw[jP (bz gA) (bz gq),jy,show pX q-pX A=(pX q-Re.of x)+(Re.of x-pX A) from(aS fun n=>by simp only[ao,ak,aE]<;>grind),oS h k2];decide
 have a2:=up c.q gq (by omega)
 have a4:=up d.q gq' (by omega)
 have a3:cx d.p A<0:=by
  rw[jP (bz gp) (bz gA)] at a1
  rw[jP (bz gp') (bz gA),←dN (z:=pX c.p-pX d.p) (x:=pX c.p-pX A) (aS fun n=>by simp only[ak]<;>grind) ex];exact a1
 exact nx A mA gA (Fq vc mc gA sA hA a1 a2) (Fq vd md gA sA' hA' a3 a4) a1 a2 a3 a4
theorem N0 (e0:cP c.q d.q=0) (h1:0<lp c.q x) (h2:lp c.p x<0) (h3:lp d.p x<0)
 (nx: ∀A∈j9 c d,GP A→c.on A=true→d.on A=true→cx c.p A<0→cx A c.q<0→cx d.p A<0→cx A d.q<0→False):cy (r9 c x) (r9 d x)=AH c d:=by
 obtain⟨zc,hc1,c01⟩:=ER vc nc (x:=x) (by omega) (by omega)
 obtain⟨zd,hd1,c02⟩:=ER vd nd (x:=x) (by omega) (by have:=uj (bz (dy vc.g)) (bz (dy vd.g)) e0 x;omega)
 have gp:=cn vc.g
 have gq:=dy vc.g
 have gp':=cn vd.g
 have gq':=dy vd.g
 rw[li (bz gq)] at h1
 rw[li (bz gp)] at h2
 rw[li (bz gp')] at h3
 obtain⟨ex,_⟩:=vW gq gq' e0
 have c1:=aU (pX c.q-Re.of x)
 have c2:=aU (pX c.p-Re.of x)
 have c3:=aU (pX d.p-Re.of x)
 have z: ∀e:Cv,aw (pX (r9 e x)-Re.of x)=0:=fun e=>by rw[Pe];exact lK _
 have on0: ∀ {e:Cv},CvV e→e.mono=true→e.hf e.q:=fun{e} ve me=>by
  cases e with
  |seg l f t=>trivial
  |arc k w f t=>
   have hh:=wx ve.g.1 ve.pos ⟨ve.g.2.1,bD.1 ve.sp⟩ ⟨ve.g.2.2,bD.1 ve.sq⟩ me
   refine((JS ve me ⟨ve.g.2.2,bD.1 ve.sq⟩).1 ?_).1
   rw[EH ve me ⟨ve.g.2.2,bD.1 ve.sq⟩]
   have hs:=we (bz ve.g.2.2)
   cases w with
   |true=>rw[if_pos rfl] at hh⊢;exact⟨by rcases hh.1 with e|e<;>(rw[e];decide),by show cx f t≤0;omega,by show cx t t≤0;omega⟩
   |false=>
    have ha:=iz (bz ve.g.2.1) (bz ve.g.2.2)
    grind
 rw[EX c01 c02]
 refine KY (X:=Re.of x) (em:= -1) (side:= -1) (Q:=c.p) vc vd (xI vc nc) (xI vd nd) (.inr ⟨rfl,rfl⟩) gq gq' vc.sq vd.sq e0 zc zd (z c) (z d) (by rw[F5,jy];omega) gp vc.sp (by rw[F5];omega)
  (on0 vc mc) (on0 vd md) hc1 hd1 ?_ (by unfold AH;rw[if_pos e0])
 intro A mA gA sA sA' hA hA' k1 k2
 rw[F5] at k1 k2
 have a1:cx A c.q<0:=by rw[jP (bz gA) (bz gq)];omega
 have up: ∀q:Pt,GP q→aw (pX q-Re.of x)= -1→cx q A<0:=fun q gq h=>by
  have hz:aw ((pX A-Re.of x)+ -(pX q-Re.of x))=1:=wC (by rw[jy];exact k2) (by rw[br];omega)
  rw[jP (bz gq) (bz gA),jy,show pX A-pX q=(pX A-Re.of x)+ -(pX q-Re.of x) from(aS fun n=>by simp only[ao,ak,aE,aD]<;>grind),hz];decide
 have a2:=up c.p gp (by omega)
 have a4:=up d.p gp' (by omega)
 have a3:cx A d.q<0:=by
  rw[jP (bz gA) (bz gq)] at a1
  rw[jP (bz gA) (bz gq'),←dN (z:=pX d.q-pX c.q) (x:=pX A-pX c.q) (aS fun n=>by simp only[ak]<;>grind) (by rw[jy,ex];rfl)];exact a1
 exact nx A mA gA (Fq vc mc gA sA hA a2 a1) (Fq vd md gA sA' hA' a4 a3) a2 a1 a4 a3
end
section
variable {c:Cv}{G:Pt→Prop}(gc: ∀p,G p→0≤p.c) (anti: ∀p q,G p→G q→c.ord q p= -c.ord p q) (tr: ∀p q r,G p→G q→G r→M7 (c.ord p q) (c.ord q r) (c.ord p r)=true) (zero: ∀p q,G p→G q→c.ord p q=0→cP p q=0)
include anti tr zero
theorem GV {x:Pt}(ox:G x): ∀ {S:List Pt},(∀y∈S,G y)→S.Pairwise (fun p q=>c.ord p q<0)→(gg c S x).Pairwise (fun p q=>c.ord p q<0)
 |[],_,_=>by rw[Bp];exact List.pairwise_singleton _ _
 |o::l,hS,hp=>by
  have oo:=hS o (by simp)
  have hl: ∀y∈l,G y:=fun y hy=>hS y (by simp[hy])
  obtain⟨h1,h2⟩:=tP.1 hp
  by_cases h:c.ord o x<0
  ·rw[yz h]
   refine tP.2 ⟨fun y hy=>?_,GV ox hl h2⟩
   rcases rH hy with g|g
   ·exact h1 y g
   ·rw[g];exact h
  ·rw[yl h]
   split
   ·exact hp
   ·rename_i hn
    have ha:=anti o x oo ox
    have hz:c.ord o x≠0:=fun e=>hn (zero o x oo ox e)
    refine tP.2 ⟨fun y hy=>?_,hp⟩
    rcases gD.1 hy with g|g
    ·rw[g];omega
    ·exact DT (tr x o y ox oo (hl y g)) (by omega) (q5 (h1 y g))
include gc
theorem Ds: ∀(L:List Pt) {S:List Pt},(∀y∈L,G y)→(∀y∈S,G y)→S.Pairwise (fun p q=>c.ord p q<0)→
 (L.foldl (gg c) S).Pairwise (fun p q=>c.ord p q<0)∧(∀y∈S,y∈L.foldl (gg c) S)∧ ∀y∈L,∃z∈L.foldl (gg c) S,cP z y=0
 |[],S,_,_,hp=>⟨hp,fun y hy=>hy,fun y hy=>by cases hy⟩
 |x::L,S,hL,hS,hp=>by
  have ox:=hL x (by simp)
  have hS2: ∀y∈gg c S x,G y:=fun y hy=>(rH hy).elim (hS y) (fun e=>e▸ox)
  obtain⟨h1,h2,h3⟩:=Ds L (S:=gg c S x) (fun y hy=>hL y (by simp[hy])) hS2 (GV anti tr zero ox hS hp)
  obtain⟨g1,y,g2,g3⟩:=xX (c:=c) (x:=x) (gc x ox) (S:=S)
  rw[uU]
  refine⟨h1,fun z hz=>h2 z (g1 z hz),fun z hz=>?_⟩
  rcases gD.1 hz with e|e
  ·rw[e];exact⟨y,h2 y g2,g3⟩
  ·exact h3 z e
theorem RL (vc:CvV c) (_gp: ∀p,G p→GP p) (hcp:G c.p) (hcq:G c.q) (hL: ∀y∈L,G y∧c.on y=true) (fst: ∀y,G y→c.ord c.p y≤0) (hd:d∈fk c L):
 ∃p q,G p∧G q∧d=c.ends p q∧c.ord p q<0∧ ∀x,G x→c.ord p x<0→c.ord x q<0→c.ord c.p x<0∧c.ord x c.q<0∧ ∀y∈L,cP y x≠0:=by
 have hG: ∀y∈ [c.p,c.q]++L,G y:=fun y hy=>by
  rcases lj.1 hy with h|h
  ·simp only[gD,zK,or_false] at h
   rcases h with h|h<;>rw[h]<;>assumption
  ·exact(hL y h).1
 have hT: ∀y∈ [c.p,c.q]++L,c.ord y c.q≤0:=fun y hy=>by
  rcases lj.1 hy with h|h
  ·simp only[gD,zK,or_false] at h
   rcases h with h|h
   ·rw[h];exact fst _ hcq
   ·rw[h];have:=anti c.q c.q hcq hcq;omega
  ·have h2:=(hL y h).2
   unfold Cv.on at h2
   rw[dT] at h2
   exact of_decide_eq_true h2.2
 obtain⟨hs,_,hin⟩:=Ds gc anti tr zero ([c.p,c.q]++L) (S:=[]) hG (fun y hy=>by cases hy) .nil
 obtain⟨A,p,q,B,eS,e⟩:=qB hd
 have eS:([c.p,c.q]++L).foldl (gg c) []=A++p::q::B:=eS
 have hmem: ∀y∈A++p::q::B,y∈ [c.p,c.q]++L:=fun y hy=>my (c:=c) (by show y∈([c.p,c.q]++L).foldl (gg c) [];rw[eS];exact hy)
 have op:=hG p (hmem p (by simp))
 have oq:=hG q (hmem q (by simp))
 rw[eS] at hs hin
 obtain⟨hA,hpq,hAB⟩:=List.pairwise_append.1 hs
 obtain⟨hp1,hq1⟩:=tP.1 hpq
 refine⟨p,q,op,oq,e,hp1 q (by simp),fun x ox r1 r2=>⟨CR (tr c.p p x hcp op ox) (fst p op) r1,DT (tr x q c.q ox oq hcq) r2 (hT q (hmem q (by simp))),fun y0 hy0 ey0=>?_⟩⟩
 obtain⟨y,hy,ey⟩:=hin y0 (lj.2 (.inr hy0))
 have oy:=hG y (hmem y hy)
 have oy0:=(hL y0 hy0).1
 have z1:c.ord y y0=0:=yT (gc y oy) (gc y0 oy0) ey vc.g
 have z2:c.ord y0 x=0:=yT (gc y0 oy0) (gc x ox) ey0 vc.g
 have zy:c.ord y x≤0:=VS (tr y y0 x oy oy0 ox) (by omega) (by omega)
 have zx:c.ord x y≤0:=VS (tr x y0 y ox oy0 oy) (by have:=anti y0 x oy0 ox;omega) (by have:=anti y y0 oy oy0;omega)
 have apx:=anti p x op ox
 rcases lj.1 hy with g|g
 ·have l1:c.ord y p<0:=hAB y g p (by simp)
  have:=CR (tr x y p ox oy op) (by omega) l1
  omega
 ·rcases gD.1 g with g|g
  ·grind
  ·rcases gD.1 g with g|g
   ·grind
   ·have l1:c.ord q y<0:=(tP.1 hq1).1 y g
    have:=DT (tr q y x oq oy ox) l1 (by omega)
    grind
end
section
variable {α:Type}(e:α) (C:α→α→Int)
def xo (x:α) (out:List α):Nat→Nat
 |0=>0
 |k+1=>if C x (out.getD k e)<0 then xo x out k else k+1
def Gu (out:List α) (x:α):List α:=out.take (xo e C x out out.length)++x::out.drop (xo e C x out out.length)
def bO (L:List α):List α:=L.foldl (Gu e C) []
def x8 (out rest:List α) (x:α) (j:Nat):List α:=out.take j++x::(out.drop j++rest)
def Qh (L:List α) (p:Nat):List α:=bO e C (L.take p)++L.drop p
variable {e C}
theorem Rf {x:α}{out:List α}(h0:0<j) (h:C x (out.getD (j-1) e)<0):xo e C x out j=xo e C x out (j-1):=by
 match j,h0 with
 |j+1,_=>exact if_pos h
theorem FZ {x:α}{out:List α}(h:j=0∨ ¬C x (out.getD (j-1) e)<0):xo e C x out j=j:=by
 match j with
 |0=>rfl
 |j+1=>
  rcases h with h|h
  ·omega
  ·exact if_neg h
theorem Rp (out:List α) (x:α):(Gu e C out x).length=out.length+1:=by
 unfold Gu
 grind
theorem DX: ∀(L O:List α),(L.foldl (Gu e C) O).length=O.length+L.length
 |[],O=>rfl
 |x::L,O=>by rw[uU,DX L,Rp,vh];omega
theorem dD (L:List α):(bO e C L).length=L.length:=by unfold bO;rw[DX];simp
theorem Qn {L:List α}{p:Nat}(h:p<L.length):bO e C (L.take (p+1))=Gu e C (bO e C (L.take p)) (L.getD p e):=by
 unfold bO;rw[oh (d:=e) h,List.foldl_append];rfl
theorem Kn (L:List α):Qh e C L 1=L:=by
 cases L with
 |nil=>rfl
 |cons x L=>rfl
theorem LC (L:List α):Qh e C L L.length=bO e C L:=by unfold Qh;simp
theorem Lc {L:List α}{p:Nat}(h:p<L.length):Qh e C L p=x8 (bO e C (L.take p)) (L.drop (p+1)) (L.getD p e) p:=by
 have hl:(bO e C (L.take p)).length=p:=by rw[dD,fQ,fT (Nat.le_of_lt h)]
 unfold Qh x8
 rw[show(bO e C (L.take p)).take p=bO e C (L.take p) from iB (rZ hl),show(bO e C (L.take p)).drop p=[] from qz (rZ hl),zI,pr h,List.getD,j7 h]
 rfl
theorem xO {L:List α}{p:Nat}(h:p<L.length) (hj:xo e C (L.getD p e) (bO e C (L.take p)) p=j):x8 (bO e C (L.take p)) (L.drop (p+1)) (L.getD p e) j=Qh e C L (p+1):=by
 have hl:(bO e C (L.take p)).length=p:=by rw[dD,fQ,fT (Nat.le_of_lt h)]
 unfold Qh x8
 rw[Qn h]
 unfold Gu
 grind
section
variable {out rest:List α}{x:α}{j:Nat}
theorem iU (hj:j≤out.length):(x8 out rest x j).length=out.length+1+rest.length:=by
 unfold x8
 grind
theorem FO (hj:j≤out.length):(x8 out rest x j).getD j e=x:=by
 unfold x8
 grind
theorem FE (h0:0<j) (hj:j≤out.length):(x8 out rest x j).getD (j-1) e=out.getD (j-1) e:=by
 unfold x8
 grind
theorem Oi (h0:0<j) (hj:j≤out.length):((x8 out rest x j).set j (out.getD (j-1) e)).set (j-1) x=x8 out rest x (j-1):=by
 obtain⟨k,rfl⟩: ∃k,j=k+1:=⟨j-1,by omega⟩
 have hk:k<out.length:=by omega
 rw[Nat.add_sub_cancel]
 apply List.ext_getElem?
 intro q
 rw[List.getElem?_set,List.getElem?_set,List.length_set,iU hj]
 have hl2:(out.take k).length=k:=by grind
 unfold x8
 by_cases e1:k=q
 ·grind
 grind
end
theorem Mb (out:List α) (x:α):(Gu e C out x).Perm (x::out):=by
 exact List.perm_middle.trans (by rw[BY])
theorem Co: ∀(L O:List α),(L.foldl (Gu e C) O).Perm (O++L)
 |[],O=>by simp
 |x::L,O=>by
  rw[uU]
  exact(Co L _).trans (((Mb O x).append_right L).trans List.perm_middle.symm)
theorem mI (L:List α):(bO e C L).Perm L:=Co L []
variable {enc:α→List CellD}{m:Nat}
theorem nL (h: ∀x,(enc x).length=m) {O:List α}(hj:j<O.length):((aI enc O++rs).drop (j*m)).take m=enc (O.getD j e):=by
 have hl:=aG h O
 have h2:(j+1)*m≤O.length*m:=tz _ hj
 rw[tF] at h2
 rw[Cp (by omega),gj h (eJ (d:=e) hj),tE,←h (O.getD j e)]
 grind
theorem vU (h: ∀x,(enc x).length=m) {O:List α}(hj:j<O.length) (x:α):(aI enc O++rs).take (j*m)++enc x++(aI enc O++rs).drop (j*m+m)=aI enc (O.set j x)++rs:=by
 have hl:=aG h O
 have h2:(j+1)*m≤(aI enc O).length:=by rw[hl];exact tz _ hj
 have h1:j*m≤(aI enc O).length:=by grind
 rw[show j*m+m=(j+1)*m from by rw[tF,Nat.one_mul],List.take_append_of_le_length h1,Cp h2,o8 h,o7 h,List.set_eq_take_append_cons_drop,if_pos hj,io]
 show _=aI enc (O.take j)++(enc x++aI enc (O.drop (j+1)))++rs
 grind
end
def co:Cv→Pt→Pt→Int
 | .seg _ _ _,_,_=>0
 | .arc k w f t,p,q=>if w then-Cn k t p q else Cn k f p q
def nl (c:Cv) (S:List Pt):List Cv:=i9 c (c.p::(S++[c.q]))
def cJ (c:Cv):List Cv:=if c.isArc then nl c (bO dPt (co c) (iP c)) else[c]
def te (c:Cv):List Cv:=bO bV gB ((cJ c).map Cv.fwd)
def Qt:List CellD:=F8++F8++F8++F8++F8
theorem Cc (c:Cv) (S:List Pt):(nl c S).length=S.length+1:=by
 unfold nl;rw[iF,vh,fp];simp
def rR (c:Cv) (S:List Pt) (n:Nat):List Cv:=i9 c (c.p::S.take n)
def nO (c:Cv) (S:List Pt) (n:Nat):Pt:=(c.p::S).getD n dPt
theorem Eh (h:n≤S.length):(rR c S n).length=n:=by
 unfold rR;rw[iF,vh,fQ,fT h];rfl
theorem xk (c:Cv): ∀(l:List Pt) (a x:Pt),i9 c (a::(l++[x]))=i9 c (a::l)++[c.ends ((a::l).getD l.length dPt) x]
 |[],a,x=>rfl
 |b::l,a,x=>by
  show c.ends a b::i9 c (b::(l++[x]))=c.ends a b::i9 c (b::l)++_
  rw[xk c l b x];rfl
theorem Eb (h:n<S.length):rR c S (n+1)=rR c S n++[c.ends (nO c S n) (S.getD n dPt)]:=by
 unfold rR nO
 rw[oh (d:=dPt) h,xk]
 grind
theorem Q3:nl c S=rR c S S.length++[c.ends (nO c S S.length) c.q]:=by
 unfold nl rR nO
 rw[xk,tI]
theorem Nu (c:Cv) (S:List Pt) (n:Nat):nO c S (n+1)=S.getD n dPt:=rfl
theorem MY (h:0<S.length):rR c S 1=[c.ends c.p (S.getD 0 dPt)]:=by
 rw[Eb h];rfl
end Go.Proofs.YtkmdgigkbhmilaaGreat
