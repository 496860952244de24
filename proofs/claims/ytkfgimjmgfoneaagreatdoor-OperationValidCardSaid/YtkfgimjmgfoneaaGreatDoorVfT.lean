/-Layer 28:what operation.Format returns where its numbers are 0,3,6. At most 1000 operations of at most 1000 depths. -/
import Derived.Test.YtkfgimjmgfoneaaGreatDoorVfS
import Derived.Deep.RegionHeld3
import Derived.Test.YtkfgimjmgfoneaaGreatDoorProg
import Derived.WalkKit
import Derived.WalkSpells
import Derived.WalkLawsBesides
import Derived.StillTactics
import Derived.Outline
import Derived.Test.YtkfgimjmgfoneaaGreatDoorRows
import Derived.Deep.Slices
import Derived.ProofKit
import Derived.OpenShut
import Derived.Carry
import Derived.Test.YtkfgimjmgfoneaaGreatDoorCards
import Derived.Test.YtkfgimjmgfoneaaGreatDoorTie
import Derived.Deep.DeepHandedRow
import Derived.LaidMore
import Derived.Stop.Joined
import Derived.Stop.LaidErr
import Derived.MakeChecks
import Derived.SevenTiedAt
namespace Go.Proofs.YtkfgimjmgfoneaaGreatDoor
open Go.RowKit
variable {os:List OpR}{B b k:Nat}{e t:TypeId}{w w':World}
theorem tM:type_of% @Tryz.underlying2:=@Tryz.underlying2
theorem qv:type_of% @List.flatten_cons:=@List.flatten_cons
def MN (n:Int):List UInt8:=[UInt8.ofNat (48+n.toNat)]
def sI (n:Int):ByteArray:=⟨(MN n).toArray⟩
def ui (n:Int):Prop:=n=0∨n=3∨n=6
theorem CS:MN 0=[48]:=rfl
theorem Cr:MN 3=[51]:=rfl
theorem CH:MN 6=[54]:=rfl
theorem jY (n:Int) (h:ui n):(sI n).size≤21:=by
 rcases h with rfl|rfl|rfl<;>simp only[sI,CS,Cr,CH]<;>decide
theorem F9 (n:Int) (w:World) (h:ui n):
 Calls Tryz.prog 82 #[.int .i64 n] w fun e w'=>e=.returned (.string (sI n))∧Below w.heap.size w w':=by
 have e0:(⟨#[48]⟩:ByteArray)=sI 0:=by rw[sI,CS]
 have e3:(⟨#[51]⟩:ByteArray)=sI 3:=by rw[sI,Cr]
 have e6:(⟨#[54]⟩:ByteArray)=sI 6:=by rw[sI,CH]
 have E0:=eK e0;have E3:=eK e3;have E6:=eK e6
 clear e0 e3 e6
 rcases h with rfl|rfl|rfl
 all_goals
  go_enter Tryz.func82,Tryz.ntmps82
  go_wp2
  go_ret
 ·exact⟨by rw[←E0.out];rfl,bP _ _⟩
 ·exact⟨by rw[←E3.out];rfl,bP _ _⟩
 ·exact⟨by rw[←E6.out];rfl,bP _ _⟩
theorem Ep (n:Int) (w:World) (h:ui n):
 Calls Tryz.prog 53 #[.int .i64 n,.int .i64 10] w fun e w'=>e=.returned (.string (sI n))∧Below w.heap.size w w':=by
 have h1:0≤n∧n<100:=by unfold ui at h;omega
 have H:=eK h;clear h
 go_enter Tryz.func53,Tryz.ntmps53
 go_wp2_with fail
 refine(F9 _ _ H.out).mono ?_
 rintro e w1 ⟨rfl,hb⟩
 go_wp2_with fail
 go_ret
 exact⟨rfl,hb⟩
theorem rN (n:Int) (w:World) (h:ui n):
 Calls Tryz.prog 32 #[.int .i64 n,.int .i64 10] w fun e w'=>e=.returned (.string (sI n))∧Below w.heap.size w w':=by
 have H:=eK h;clear h
 go_enter Tryz.func32,Tryz.ntmps32
 go_wp2_with fail
 refine(Ep _ _ H.out).mono ?_
 rintro e w1 ⟨rfl,hb⟩
 go_wp2_with fail
 go_ret
 exact⟨rfl,hb⟩
theorem FG (n:Int) (w:World) (h:ui n):
 Calls Tryz.prog 52 #[.int .i64 n] w fun e w'=>e=.returned (.string (sI n))∧Below w.heap.size w w':=by
 have H:=eK h;clear h
 go_enter Tryz.func52,Tryz.ntmps52
 go_wp2_with fail
 refine(Ep _ _ H.out).mono ?_
 rintro e w1 ⟨rfl,hb⟩
 go_wp2_with fail
 go_ret
 exact⟨rfl,hb⟩
theorem Ay (n:Int) (w:World) (h:ui n):
 Calls Tryz.prog 31 #[.int .i64 n] w fun e w'=>e=.returned (.string (sI n))∧Below w.heap.size w w':=by
 have H:=eK h;clear h
 go_enter Tryz.func31,Tryz.ntmps31
 go_wp2_with fail
 refine(FG _ _ H.out).mono ?_
 rintro e w1 ⟨rfl,hb⟩
 go_wp2_with fail
 go_ret
 exact⟨rfl,hb⟩
def Bdr (B b:Nat) (l:List UInt8) (w:World):Prop:=Lib.IsBuilderF 92 5 B b (Lib.byteCells l) w
theorem Bdr.below {l:List UInt8}(h:Bdr B b l w) (hb:Below w.heap.size w w'):Bdr B b l w':=by
 have lt: ∀ {g:Nat}{o:Obj},w.heap[g]? =some o→w'.heap[g]? =some o:=fun{g o} hg=>by
  rcases jb g w.heap.size with h1|h1
  ·exact(hb.block g h1).trans hg
  ·rw[Array.getElem?_eq_none h1] at hg;cases hg
 have key: ∀p,Lib.BuilderAtF 92 5 B b p (Lib.byteCells l) w→Lib.BuilderAtF 92 5 B b p (Lib.byteCells l) w':=fun p hp=>by
  obtain⟨hB,v,hv,⟨hl,hr⟩,hne⟩:=hp
  refine⟨hB,v,lt hv,⟨hl,?_⟩,hne⟩
  rcases hr with h0|⟨g,cap,cur,fz,e1,e2,e3,r⟩
  ·exact .inl h0
  ·exact .inr ⟨g,cap,cur,fz,e1,e2,lt e3,r⟩
 exact h.elim (fun x=>.inl (key _ x)) (fun x=>.inr (key _ x))
theorem Bdr.lt {l:List UInt8}(h:Bdr B b l w):b<w.heap.size:=by
 have key: ∀p,Lib.BuilderAtF 92 5 B b p (Lib.byteCells l) w→b<w.heap.size:=fun p hp=>by
  obtain⟨hB,v,hv,_⟩:=hp
  rcases jb b w.heap.size with h1|h1
  ·exact h1
  ·rw[Array.getElem?_eq_none h1] at hv;cases hv
 exact h.elim (key _) (key _)
theorem kT (B b:Nat) (l:List UInt8) (s:ByteArray) (w:World) (h:Bdr B b l w) (hlen:l.length+s.size≤140737488355328) (hBw:B≤w.heap.size):
 Calls Tryz.prog 30 #[.pointer (some ⟨b,0,none⟩),.string s] w fun e w'=>e=.returned (.tuple #[.int .i64 s.size,.nilIface])∧Bdr B b (l++s.data.toList) w'∧Below B w w'∧Lib.OthersKept 5 (some b) w w':=
 (BW B b _ s w h (by rw[Lib.byteCells_length];exact hlen) hBw).mono fun _ _ ⟨he,hb,h1,h2⟩=>⟨he,.inr (by simpa [Lib.byteCells,Lib.strCells] using hb),h1,h2⟩
theorem CI (B b:Nat) (l:List UInt8) (w:World) (h:Bdr B b l w) (hBw:B≤w.heap.size):
 Calls Tryz.prog 33 #[.pointer (some ⟨b,0,none⟩)] w fun e w'=>e=.returned (.string ⟨l.toArray⟩)∧Below B w w':=
 (zp B b l w h hBw).mono fun _ _ ⟨he,_,h1,_⟩=>⟨he,h1⟩
theorem Bk.others {g:Nat}{cs:Array Value}(h:Bk w g t cs) (ho:Lib.OthersKept e (some b) w w') (hg:g≠b) (ht:t≠e):Bk w' g t cs:=
 ho g _ h (by simpa using hg) (by intro c fz h2;injection h2 with _ h3;exact ht h3)
def nm (k:Int):ByteArray:=if 1≤k∧k≤5 then oY k else⟨#[63]⟩
theorem FB (k:Int) (h:1≤k∧k≤5):(oY k).toList.isEmpty=false:=by
 rcases(show k=1∨k=2∨k=3∨k=4∨k=5 from by omega) with h|h|h|h|h<;>subst h<;>decide+kernel
theorem GX (k:Int) (h: ¬(1≤k∧k≤5)):oY k=⟨#[]⟩:=by
 unfold oY
 rw[if_neg (by omega),if_neg (by omega),if_neg (by omega),if_neg (by omega),if_neg (by omega)]
theorem Kz (k:Int):(nm k).size≤6:=by
 unfold nm
 split
 ·rename_i h
  rcases(show k=1∨k=2∨k=3∨k=4∨k=5 from by omega) with h|h|h|h|h<;>subst h<;>decide+kernel
 ·decide+kernel
def x6 (n:ByteArray) (f t l:Int):ByteArray:=
 n++⟨#[32,102,101,97,116,117,114,101,32]⟩++sI f++⟨#[32,116,111,111,108,32]⟩++sI t++⟨#[32,108,101,97,118,101,32]⟩++sI l++⟨#[32,100,101,112,116,104,115]⟩
theorem fu (a b s:ByteArray) (h:a++b=s) (hs:a.size+b.size≤9223372036854775807) (w:World):(Op.stringOp .add a b).run Tryz.prog w=.ok (.string s) w:=by
 rw[←h]
 exact run_string_add_sum (P:=Tryz.prog) (w:=w) a b hs
theorem d9 (a b s:ByteArray) (h:a++b=s):s.size=a.size+b.size:=by rw[←h];exact ByteArray.size_append
def gg (ds:List Int):List UInt8:=ds.flatMap fun d=>32::MN d
theorem mm (ds:List Int) (j:Nat) (x:Int) (h:ds[j]? =some x):gg (ds.take (j+1))=gg (ds.take j)++32::MN x:=by
 unfold gg
 rw[eZ h,List.flatMap_append];simp
def u3 (o:OpR):List UInt8:=(x6 (nm o.kind) o.feat o.tool o.leave).data.toList++gg o.ds++[10]
def nD (os:List OpR):List UInt8:=os.flatMap u3
theorem pI {o:OpR}(h:os[k]? =some o):nD (os.take (k+1))=nD (os.take k)++u3 o:=by
 unfold nD
 rw[eZ h,List.flatMap_append];simp
def QG (o:OpR):Prop:=ui o.feat∧ui o.tool∧ui o.leave∧(∀d∈o.ds,ui d)∧o.dn≤1000
set_option maxHeartbeats 1000000 in
theorem Cs (A:Option Addr) (n c:Nat) (os:List OpR) (w:World) (ha:RdO w A n os) (hn:n≤1000) (hf: ∀o∈os,QG o):
 Calls Tryz.prog 16 #[.slice A n c] w fun e w'=>e=.returned (.string ⟨(nD os).toArray⟩)∧Below w.heap.size w w':=by
 have hlen:=ha.1
 have Hf:=eK hf;clear hf
 go_enter Tryz.func16,Tryz.ntmps16
 go_wp2
 go_loopw [11] (fun i wr=> ∃k:Nat,k≤n∧i=.int .i64 k∧Below w.heap.size w wr∧Bdr w.heap.size w.heap.size (nD (os.take k)) wr∧Hid ((nD (os.take k)).length≤k*30000)) (fun i _=>n-(intOf i).toNat)
 case atStart=>
  refine⟨0,cY _,rfl,(bP _ _).alloc (aX _) _,.inl ⟨Nat.le_refl _,_,heap_alloc_new w _,⟨rfl,.inl ⟨rfl,rfl⟩⟩,by simp[Value.ownBlock]⟩,by show _≤_;simp[nD]⟩
 case round=>
  obtain⟨k,hk,rfl,hbel,hbd,Hl⟩:=hrel
  have hz:=hbel.size
  by_cases hlt:k<n
  ·obtain⟨b,off,o,rfl,hb,hoo,hc0,hc1,hc2,hc3,hc4,hds⟩:=(ha.below hbel).at_ hlt
   have hfo:=Hf.out o (r8 hoo.out)
   have hbk:=Bk.new wr 24 #[.int .i64 o.kind,.int .i64 o.feat,.int .i64 o.tool,.slice o.da o.dn o.dc,.int .i64 o.leave]
   have hbd2:=hbd.below ((bP _ _).alloc (aX _) (.cells #[.int .i64 o.kind,.int .i64 o.feat,.int .i64 o.tool,.slice o.da o.dn o.dc,.int .i64 o.leave] 24))
   have hbel2:=hbel.alloc hz (.cells #[.int .i64 o.kind,.int .i64 o.feat,.int .i64 o.tool,.slice o.da o.dn o.dc,.int .i64 o.leave] 24)
   go_wp2_with fail
   refine(J2 _ _).mono ?_
   rintro e w2 ⟨rfl,hb2⟩
   have hbk3:=hbk.below hb2
   have hbd3:=hbd2.below hb2
   have hbel3:=hbel2.trans (hb2.mono (by simp;omega))
   have hz3:=hbel3.size
   have hltb:=hbd.lt
   clear hbk hbd hbd2 hbel2 hb2 hc0 hc1 hc2 hc3 hc4
   have f1:=hbk3.cell 1
   have f2:=hbk3.cell 2
   have f4:=hbk3.cell 4
   simp at f1 f2 f4
   obtain⟨nmk,hnmk⟩: ∃s,nm o.kind=s:=⟨_,rfl⟩
   have Hnm:=eK hnmk
   have hns:=Kz o.kind
   rw[hnmk] at hns;clear hnmk
   by_cases hk5:1≤o.kind∧o.kind≤5
   ·have hne:=FB o.kind hk5
    have hkn:Hid (oY o.kind=nmk):=by show _=_;rw[←Hnm.out,nm,if_pos hk5]
    rw[hkn.out] at hne⊢
    obtain⟨hif,hit,hil,hid,hdn⟩:=hfo
    have z1:=jY _ hif
    have z2:=jY _ hit
    have z3:=jY _ hil
    obtain⟨s1,e1⟩: ∃s,nmk++(⟨#[32,102,101,97,116,117,114,101,32]⟩:ByteArray)=s:=⟨_,rfl⟩
    obtain⟨s2,e2⟩: ∃s,s1++sI o.feat=s:=⟨_,rfl⟩
    obtain⟨s3,e3⟩: ∃s,s2++(⟨#[32,116,111,111,108,32]⟩:ByteArray)=s:=⟨_,rfl⟩
    obtain⟨s4,e4⟩: ∃s,s3++sI o.tool=s:=⟨_,rfl⟩
    obtain⟨s5,e5⟩: ∃s,s4++(⟨#[32,108,101,97,118,101,32]⟩:ByteArray)=s:=⟨_,rfl⟩
    obtain⟨s6,e6⟩: ∃s,s5++sI o.leave=s:=⟨_,rfl⟩
    obtain⟨s7,e7⟩: ∃s,s6++(⟨#[32,100,101,112,116,104,115]⟩:ByteArray)=s:=⟨_,rfl⟩
    have q1:=d9 _ _ _ e1
    have q2:=d9 _ _ _ e2
    have q3:=d9 _ _ _ e3
    have q4:=d9 _ _ _ e4
    have q5:=d9 _ _ _ e5
    have q6:=d9 _ _ _ e6
    have q7:=d9 _ _ _ e7
    have k1:(⟨#[32,102,101,97,116,117,114,101,32]⟩:ByteArray).size=9:=rfl
    have k3:(⟨#[32,116,111,111,108,32]⟩:ByteArray).size=6:=rfl
    have k5:(⟨#[32,108,101,97,118,101,32]⟩:ByteArray).size=7:=rfl
    have k7:(⟨#[32,100,101,112,116,104,115]⟩:ByteArray).size=7:=rfl
    have a1:=fu _ _ _ e1 (by omega)
    have a2:=fu _ _ _ e2 (by omega)
    have a3:=fu _ _ _ e3 (by omega)
    have a4:=fu _ _ _ e4 (by omega)
    have a5:=fu _ _ _ e5 (by omega)
    have a6:=fu _ _ _ e6 (by omega)
    have a7:=fu _ _ _ e7 (by omega)
    have hs7:s7.size≤98:=by omega
    have He:Hid (x6 nmk o.feat o.tool o.leave=s7):=by show _=_;rw[x6,e1,e2,e3,e4,e5,e6,e7]
    clear q1 q2 q3 q4 q5 q6 q7 k1 k3 k5 k7 e1 e2 e3 e4 e5 e6 e7 z1 z2 z3 hns
    have hbd4:Bdr w.heap.size w.heap.size (nD (os.take k)) w2.drew:=hbd3
    have hbk4:Bk w2.drew wr.heap.size 24 #[.int .i64 o.kind,.int .i64 o.feat,.int .i64 o.tool,.slice o.da o.dn o.dc,.int .i64 o.leave]:=hbk3
    have hll:=Hl.out
    have hq0:Below w2.heap.size w2.drew w2.drew:=bP _ _
    go_wp2_with fail
    go_region_held3 (fun w'=>w'.cell? ⟨wr.heap.size,1,none⟩=some (.int .i64 o.feat)∧w'.cell? ⟨wr.heap.size,2,none⟩=some (.int .i64 o.tool)∧w'.cell? ⟨wr.heap.size,4,none⟩=some (.int .i64 o.leave))
     (first|exact⟨f1,f2,f4⟩|exact⟨(hbk5.cell 1).trans rfl,(hbk5.cell 2).trans rfl,(hbk5.cell 4).trans rfl⟩|exact⟨((hbk4.below hq0).cell 1).trans rfl,((hbk4.below hq0).cell 2).trans rfl,((hbk4.below hq0).cell 4).trans rfl⟩)
     (first
      |(go_at_call 31;refine(Ay _ _ (by assumption)).mono ?_;rintro e w4 ⟨rfl,hb4⟩;replace hq0:=hq0.trans (hb4.mono hq0.size))
      |(go_at_call 32;refine(rN _ _ (by assumption)).mono ?_;rintro e w4 ⟨rfl,hb4⟩;replace hq0:=hq0.trans (hb4.mono hq0.size))
      |(go_at_call 30;refine(kT _ _ _ s7 _ (Bdr.below hbd4 hq0) (by omega) (by have:=hq0.size;simp at this;omega)).mono ?_;rintro e w5 ⟨rfl,hbd5,hb5,ho5⟩;have hbk5:=(hbk4.below hq0).others ho5 (by omega) (by decide)))
    have hbel5:Below w.heap.size w w5:=(hbel3.drew.trans (hq0.mono hz3)).trans hb5
    have f3:=hbk5.cell 3
    simp at f3
    clear hbd4 hbk4 hq0 f1 f2 f4 hbk3 hbd3 hbel3 hb5 ho5 hbk5 a1 a2 a3 a4 a5 a6 a7 hif hit hil hne
    go_wp2
    clear f3
    obtain⟨wo,hwo⟩: ∃wo:World,wo=w5:=⟨_,rfl⟩
    rw[←hwo] at hbd5 hbel5⊢
    clear hwo
    go_loopw [41] (fun i' wr=> ∃j:Nat,j≤o.dn∧i'=.int .i64 j∧Below w.heap.size w wr∧Bdr w.heap.size w.heap.size (nD (os.take k)++s7.data.toList++gg (o.ds.take j)) wr∧Hid ((gg (o.ds.take j)).length≤j*22)) (fun i _=>o.dn-(intOf i).toNat)
    case atStart=>exact⟨0,cY _,rfl,hbel5,by simpa [gg] using hbd5,by show _≤_;simp[gg]⟩
    case round=>
     clear hbd5 hbel5 hds
     obtain⟨j,hj,rfl,hbel6,hbd6,Hj⟩:=hrel
     have hz6:=hbel6.size
     have hltj:=hbd6.lt
     by_cases hltd:j<o.dn
     ·obtain⟨b3,off3,x,hA3,hb3,hx,hcx⟩:=((ha.2.2 o (r8 hoo.out)).below hbel6).at_ hltd
      have hix:=hid x (r8 hx.out)
      have zx:=jY x hix
      obtain⟨s8,e8⟩: ∃s,(⟨#[32]⟩:ByteArray)++sI x=s:=⟨_,rfl⟩
      have q8:=d9 _ _ _ e8
      have k8:(⟨#[32]⟩:ByteArray).size=1:=rfl
      have a8:=fu _ _ _ e8 (by omega)
      have hs8:s8.size≤22:=by omega
      have hl8:Hid (s8.data.toList=32::MN x):=by
       show _=_
       rw[←e8];simp[sI,ByteArray.data_append]
      have hjl:=Hj.out
      have hll2:s7.data.toList.length=s7.size:=rfl
      clear q8 k8 e8 zx
      rw[hA3]
      go_wp2_with (first
       |(go_at_call 32;refine(rN _ _ (by assumption)).mono ?_;rintro e w4 ⟨rfl,hb4⟩)
       |(go_at_call 30;refine(kT _ _ _ s8 _ (Bdr.below hbd6 hb4) (by simp only[bN,hll2];omega) (by have:=hb4.size;omega)).mono ?_;rintro e w7 ⟨rfl,hbd7,hb7,ho7⟩))
      go_roundw
      case rel=>
       refine⟨j+1,by omega,by go_num,(hbel6.trans (hb4.mono hz6)).trans hb7,?_,?_⟩
       ·rw[mm _ _ _ hx.out,←hl8.out,←iP];exact hbd7
       ·show _≤_
        rw[mm _ _ _ hx.out,←hl8.out,bN]
        have:s8.data.toList.length=s8.size:=rfl
        omega
      case measure=>simp[intOf];omega
     ·obtain rfl:j=o.dn:=by omega
      have hdl:o.ds.take o.dn=o.ds:=fp (by have:=(ha.2.2 o (r8 hoo.out)).len;omega)
      have hjl:=Hj.out
      rw[hdl] at hbd6 hjl
      have hll2:s7.data.toList.length=s7.size:=rfl
      have k10:(⟨#[10]⟩:ByteArray).size=1:=rfl
      clear hdl Hj
      go_wp2_with (go_at_call 30;refine(kT _ _ _ _ _ hbd6 (by simp only[bN,hll2];omega) hz6).mono ?_;rintro e w7 ⟨rfl,hbd7,hb7,ho7⟩)
      have hline:u3 o=s7.data.toList++gg o.ds++[10]:=by rw[u3,Hnm.out,He.out]
      go_roundw
      case rel=>
       refine⟨k+1,by omega,by go_num,hbel6.trans hb7,?_,?_⟩
       ·rw[pI hoo.out,hline,←iP,←iP];exact hbd7
       ·show _≤_
        rw[pI hoo.out,hline,bN,bN,bN]
        simp only[tI,List.length_nil]
        omega
      case measure=>simp[intOf];omega
   ·have hkn:=GX o.kind hk5
    obtain rfl:nmk=(⟨#[63]⟩:ByteArray):=by rw[←Hnm.out,nm,if_neg hk5]
    rw[hkn];clear hkn
    obtain⟨hif,hit,hil,hid,hdn⟩:=hfo
    have z1:=jY _ hif
    have z2:=jY _ hit
    have z3:=jY _ hil
    obtain⟨s1,e1⟩: ∃s,(⟨#[63]⟩:ByteArray)++(⟨#[32,102,101,97,116,117,114,101,32]⟩:ByteArray)=s:=⟨_,rfl⟩
    obtain⟨s2,e2⟩: ∃s,s1++sI o.feat=s:=⟨_,rfl⟩
    obtain⟨s3,e3⟩: ∃s,s2++(⟨#[32,116,111,111,108,32]⟩:ByteArray)=s:=⟨_,rfl⟩
    obtain⟨s4,e4⟩: ∃s,s3++sI o.tool=s:=⟨_,rfl⟩
    obtain⟨s5,e5⟩: ∃s,s4++(⟨#[32,108,101,97,118,101,32]⟩:ByteArray)=s:=⟨_,rfl⟩
    obtain⟨s6,e6⟩: ∃s,s5++sI o.leave=s:=⟨_,rfl⟩
    obtain⟨s7,e7⟩: ∃s,s6++(⟨#[32,100,101,112,116,104,115]⟩:ByteArray)=s:=⟨_,rfl⟩
    have q1:=d9 _ _ _ e1
    have q2:=d9 _ _ _ e2
    have q3:=d9 _ _ _ e3
    have q4:=d9 _ _ _ e4
    have q5:=d9 _ _ _ e5
    have q6:=d9 _ _ _ e6
    have q7:=d9 _ _ _ e7
    have k1:(⟨#[32,102,101,97,116,117,114,101,32]⟩:ByteArray).size=9:=rfl
    have k3:(⟨#[32,116,111,111,108,32]⟩:ByteArray).size=6:=rfl
    have k5:(⟨#[32,108,101,97,118,101,32]⟩:ByteArray).size=7:=rfl
    have k7:(⟨#[32,100,101,112,116,104,115]⟩:ByteArray).size=7:=rfl
    have a1:=fu _ _ _ e1 (by omega)
    have a2:=fu _ _ _ e2 (by omega)
    have a3:=fu _ _ _ e3 (by omega)
    have a4:=fu _ _ _ e4 (by omega)
    have a5:=fu _ _ _ e5 (by omega)
    have a6:=fu _ _ _ e6 (by omega)
    have a7:=fu _ _ _ e7 (by omega)
    have hs7:s7.size≤98:=by omega
    have He:Hid (x6 (⟨#[63]⟩:ByteArray) o.feat o.tool o.leave=s7):=by show _=_;rw[x6,e1,e2,e3,e4,e5,e6,e7]
    clear q1 q2 q3 q4 q5 q6 q7 k1 k3 k5 k7 e1 e2 e3 e4 e5 e6 e7 z1 z2 z3 hns
    have hbd4:Bdr w.heap.size w.heap.size (nD (os.take k)) w2.drew:=hbd3
    have hbk4:Bk w2.drew wr.heap.size 24 #[.int .i64 o.kind,.int .i64 o.feat,.int .i64 o.tool,.slice o.da o.dn o.dc,.int .i64 o.leave]:=hbk3
    have hll:=Hl.out
    have hq0:Below w2.heap.size w2.drew w2.drew:=bP _ _
    go_wp2_with fail
    go_region_held3 (fun w'=>w'.cell? ⟨wr.heap.size,1,none⟩=some (.int .i64 o.feat)∧w'.cell? ⟨wr.heap.size,2,none⟩=some (.int .i64 o.tool)∧w'.cell? ⟨wr.heap.size,4,none⟩=some (.int .i64 o.leave))
     (first|exact⟨f1,f2,f4⟩|exact⟨(hbk5.cell 1).trans rfl,(hbk5.cell 2).trans rfl,(hbk5.cell 4).trans rfl⟩|exact⟨((hbk4.below hq0).cell 1).trans rfl,((hbk4.below hq0).cell 2).trans rfl,((hbk4.below hq0).cell 4).trans rfl⟩)
     (first
      |(go_at_call 31;refine(Ay _ _ (by assumption)).mono ?_;rintro e w4 ⟨rfl,hb4⟩;replace hq0:=hq0.trans (hb4.mono hq0.size))
      |(go_at_call 32;refine(rN _ _ (by assumption)).mono ?_;rintro e w4 ⟨rfl,hb4⟩;replace hq0:=hq0.trans (hb4.mono hq0.size))
      |(go_at_call 30;refine(kT _ _ _ s7 _ (Bdr.below hbd4 hq0) (by omega) (by have:=hq0.size;simp at this;omega)).mono ?_;rintro e w5 ⟨rfl,hbd5,hb5,ho5⟩;have hbk5:=(hbk4.below hq0).others ho5 (by omega) (by decide)))
    have hbel5:Below w.heap.size w w5:=(hbel3.drew.trans (hq0.mono hz3)).trans hb5
    have f3:=hbk5.cell 3
    simp at f3
    clear hbd4 hbk4 hq0 f1 f2 f4 hbk3 hbd3 hbel3 hb5 ho5 hbk5 a1 a2 a3 a4 a5 a6 a7 hif hit hil
    go_wp2
    clear f3
    obtain⟨wo,hwo⟩: ∃wo:World,wo=w5:=⟨_,rfl⟩
    rw[←hwo] at hbd5 hbel5⊢
    clear hwo
    go_loopw [41] (fun i' wr=> ∃j:Nat,j≤o.dn∧i'=.int .i64 j∧Below w.heap.size w wr∧Bdr w.heap.size w.heap.size (nD (os.take k)++s7.data.toList++gg (o.ds.take j)) wr∧Hid ((gg (o.ds.take j)).length≤j*22)) (fun i _=>o.dn-(intOf i).toNat)
    case atStart=>exact⟨0,cY _,rfl,hbel5,by simpa [gg] using hbd5,by show _≤_;simp[gg]⟩
    case round=>
     clear hbd5 hbel5 hds
     obtain⟨j,hj,rfl,hbel6,hbd6,Hj⟩:=hrel
     have hz6:=hbel6.size
     have hltj:=hbd6.lt
     by_cases hltd:j<o.dn
     ·obtain⟨b3,off3,x,hA3,hb3,hx,hcx⟩:=((ha.2.2 o (r8 hoo.out)).below hbel6).at_ hltd
      have hix:=hid x (r8 hx.out)
      have zx:=jY x hix
      obtain⟨s8,e8⟩: ∃s,(⟨#[32]⟩:ByteArray)++sI x=s:=⟨_,rfl⟩
      have q8:=d9 _ _ _ e8
      have k8:(⟨#[32]⟩:ByteArray).size=1:=rfl
      have a8:=fu _ _ _ e8 (by omega)
      have hs8:s8.size≤22:=by omega
      have hl8:Hid (s8.data.toList=32::MN x):=by
       show _=_
       rw[←e8];simp[sI,ByteArray.data_append]
      have hjl:=Hj.out
      have hll2:s7.data.toList.length=s7.size:=rfl
      clear q8 k8 e8 zx
      rw[hA3]
      go_wp2_with (first
       |(go_at_call 32;refine(rN _ _ (by assumption)).mono ?_;rintro e w4 ⟨rfl,hb4⟩)
       |(go_at_call 30;refine(kT _ _ _ s8 _ (Bdr.below hbd6 hb4) (by simp only[bN,hll2];omega) (by have:=hb4.size;omega)).mono ?_;rintro e w7 ⟨rfl,hbd7,hb7,ho7⟩))
      go_roundw
      case rel=>
       refine⟨j+1,by omega,by go_num,(hbel6.trans (hb4.mono hz6)).trans hb7,?_,?_⟩
       ·rw[mm _ _ _ hx.out,←hl8.out,←iP];exact hbd7
       ·show _≤_
        rw[mm _ _ _ hx.out,←hl8.out,bN]
        have:s8.data.toList.length=s8.size:=rfl
        omega
      case measure=>simp[intOf];omega
     ·obtain rfl:j=o.dn:=by omega
      have hdl:o.ds.take o.dn=o.ds:=fp (by have:=(ha.2.2 o (r8 hoo.out)).len;omega)
      have hjl:=Hj.out
      rw[hdl] at hbd6 hjl
      have hll2:s7.data.toList.length=s7.size:=rfl
      have k10:(⟨#[10]⟩:ByteArray).size=1:=rfl
      clear hdl Hj
      go_wp2_with (go_at_call 30;refine(kT _ _ _ _ _ hbd6 (by simp only[bN,hll2];omega) hz6).mono ?_;rintro e w7 ⟨rfl,hbd7,hb7,ho7⟩)
      have hline:u3 o=s7.data.toList++gg o.ds++[10]:=by rw[u3,Hnm.out,He.out]
      go_roundw
      case rel=>
       refine⟨k+1,by omega,by go_num,hbel6.trans hb7,?_,?_⟩
       ·rw[pI hoo.out,hline,←iP,←iP];exact hbd7
       ·show _≤_
        rw[pI hoo.out,hline,bN,bN,bN]
        simp only[tI,List.length_nil]
        omega
      case measure=>simp[intOf];omega
  ·obtain rfl:k=n:=by omega
   rw[fp (by omega)] at hbd
   go_wp2_with (go_at_call 33;refine(CI _ _ _ _ hbd hz).mono ?_;rintro e w7 ⟨rfl,hb7⟩)
   go_ret
   exact⟨rfl,hbel.trans hb7⟩
theorem Bw (os:List OpR):(os.flatMap OpR.cells).length=os.length*5:=by
 induction os with
 |nil=>rfl
 |cons o os ih=>rw[List.flatMap_cons,bN,ih];simp[OpR.cells];omega
theorem zW (os:List OpR) (i j:Nat) (o:OpR) (u:Value) (ho:os[i]? =some o) (hu:o.cells[j]? =some u):(os.flatMap OpR.cells)[i*5+j]? =some u:=by
 induction os generalizing i with
 |nil=>simp at ho
 |cons p os ih=>
  have hl:p.cells.length=5:=rfl
  have hj:j<5:=by
   rcases jb j 5 with h|h
   ·exact h
   ·rw[oM (by show 5≤j;exact h)] at hu;cases hu
  rw[List.flatMap_cons]
  cases i with
  |zero=>simp at ho;subst ho;rw[v7 (by omega),tK,eC];exact hu
  |succ i=>
   have h:=ih i (by simpa using ho)
   rw[wu (by omega),show(i+1)*5+j-p.cells.length=i*5+j from by omega]
   exact h
theorem RdO.own {base c n:Nat}{A:Option Addr}(h:w.ownsRow base e 5 (.slice A n c) n (os.flatMap OpR.cells)) (hd: ∀o∈os,RdI .i64 w o.da o.dn o.ds):RdO w A n os:=by
 have hr:=Rd.own h
 have hl:os.length=n:=by have:=hr.1;rw[Bw] at this;omega
 refine⟨hl,fun hn=>?_,hd⟩
 obtain⟨b,off,e,hlt,hc⟩:=hr.2 hn
 refine⟨b,off,e,hlt,fun i o ho j u hu=>?_⟩
 rw[Nat.add_assoc]
 exact hc _ _ (zW os i j o u ho hu)
theorem PC:vO 7 3 3=[3,5,7]:=by decide
def ex (b:Nat):List OpR:=
 [{kind:=1,feat:=0,tool:=0,da:=some ⟨b,0,none⟩,dn:=2,dc:=2,leave:=0,ds:=[3,6]},
  {kind:=2,feat:=0,tool:=0,da:=none,dn:=0,dc:=0,leave:=0,ds:=[]},
  {kind:=5,feat:=1,tool:=0,da:=none,dn:=0,dc:=0,leave:=0,ds:=[]}]
theorem Md (b:Nat):oA (ex b) 3=[(0,1),(0,2),(1,2)]:=by rfl
theorem Le (b:Nat):nD ((ex b).take 1)=[114,111,117,103,104,32,102,101,97,116,117,114,101,32,48,32,116,111,111,108,32,48,32,108,101,97,118,101,32,48,32,100,101,112,116,104,115,32,51,32,54,10]:=by
 simp[nD,ex,u3,x6,gg,nm,oY,sI,CS,Cr,CH,ByteArray.data_append]
set_option maxHeartbeats 1000000 in
theorem Fk (w:World):Calls Tryz.prog 4 #[] w fun e w'=>e=.returned (.bool true)∧Below w.heap.size w w':=by
 have Hp:=E4 7 3 3 w (by omega) (by omega) (by omega) (by omega) (by decide) (by omega) (by omega)
 rw[PC] at Hp
 have HP:=eK Hp;clear Hp
 go_enter Tryz.func4,Tryz.ntmps4
 go_wp2_with fail
 refine HP.out.mono ?_
 rintro e w1 ⟨v,rfl,hown,hb1⟩
 obtain⟨A,c,rfl⟩:=pn hown
 have r1:RdI .i64 w1 A 3 [3,5,7]:=Rd.own hown
 have hz1:=hb1.size
 go_wp2_with fail
 refine(Gf _ _ 3 3 _ _ [3,5,7] [3,5,7] _ (r1.below ?_) (RdI.lit _ _ _ _ _ _ _ ?_ ?_ ?_) (by omega)).mono ?_
 ·exact(((bP _ _).alloc (by simp) _).alloc (by simp) _).alloc (by simp;omega) _
 ·simp
 ·rfl
 ·rfl
 rintro e w2 ⟨rfl,hb2⟩
 have ro:RdO ((w1.alloc (.cells #[.int .i64 3,.int .i64 6] 2)).alloc (.cells #[.int .i64 1,.int .i64 0,.int .i64 0,.slice (some ⟨w1.heap.size,0,none⟩) 2 2,.int .i64 0,.int .i64 2,.int .i64 0,.int .i64 0,.slice none 0 0,.int .i64 0,.int .i64 5,.int .i64 1,.int .i64 0,.slice none 0 0,.int .i64 0] 24))
  (some ⟨w1.heap.size+1,0,none⟩) 3 (ex w1.heap.size):=by
  have h:=World.ownsRow_lit (base:=0) (e:=24) (size:=5) (w1.alloc (.cells #[.int .i64 3,.int .i64 6] 2)) #[.int .i64 1,.int .i64 0,.int .i64 0,.slice (some ⟨w1.heap.size,0,none⟩) 2 2,.int .i64 0,.int .i64 2,.int .i64 0,.int .i64 0,.slice none 0 0,.int .i64 0,.int .i64 5,.int .i64 1,.int .i64 0,.slice none 0 0,.int .i64 0] 3 (by omega) (by decide) rfl
  rw[show(w1.alloc (.cells #[.int .i64 3,.int .i64 6] 2)).heap.size=w1.heap.size+1 from by simp] at h
  refine RdO.own (os:=ex w1.heap.size) h ?_
  intro o ho
  simp[ex] at ho
  rcases ho with rfl|rfl|rfl
  ·exact(RdI.lit w1 2 .i64 [3,6] #[.int .i64 3,.int .i64 6] _ 2 rfl rfl rfl).below ((bP _ _).alloc (aX _) _)
  ·exact Rd.nil
  ·exact Rd.nil
 have hbA:Below w1.heap.size w1 ((w1.alloc (.cells #[.int .i64 3,.int .i64 6] 2)).alloc (.cells #[.int .i64 1,.int .i64 0,.int .i64 0,.slice (some ⟨w1.heap.size,0,none⟩) 2 2,.int .i64 0,.int .i64 2,.int .i64 0,.int .i64 0,.slice none 0 0,.int .i64 0,.int .i64 5,.int .i64 1,.int .i64 0,.slice none 0 0,.int .i64 0] 24)):=((bP _ _).alloc (aX _) _).alloc (by simp) _
 have ro2:RdO w2 (some ⟨w1.heap.size+1,0,none⟩) 3 (ex w1.heap.size):=(ro.below ((bP _ _).alloc (aX _) _)).below hb2
 have hbB:Below w1.heap.size w1 w2:=(hbA.alloc (by simp;omega) _).trans (hb2.mono (by simp;omega))
 have hbC:=hb1.trans (hbB.mono hz1)
 clear hb2 hbA ro hbB hb1 r1 hown
 go_wp2_with fail
 refine(Fo _ 3 3 _ _ ro2 (by omega)).mono ?_
 rintro e w3 ⟨v3,rfl,hown3,hb3⟩
 rw[Md] at hown3
 obtain⟨A3,c3,rfl⟩:=pn hown3
 have ro3:=ro2.below hb3
 have hbD:=hbC.trans (hb3.mono hbC.size)
 have rp:RdP (w3.alloc (.cells #[.int .i64 0,.int .i64 1,.int .i64 0,.int .i64 2,.int .i64 1,.int .i64 2] 49)) (some ⟨w3.heap.size,0,none⟩) 3 [(0,1),(0,2),(1,2)]:=
  Rd.own (World.ownsRow_lit (base:=0) (e:=49) (size:=2) w3 #[.int .i64 0,.int .i64 1,.int .i64 0,.int .i64 2,.int .i64 1,.int .i64 2] 3 (by omega) (by decide) rfl)
 have rq:RdP (w3.alloc (.cells #[.int .i64 0,.int .i64 1,.int .i64 0,.int .i64 2,.int .i64 1,.int .i64 2] 49)) A3 3 [(0,1),(0,2),(1,2)]:=Rd.alloc (Rd.own hown3) _
 go_wp2_with fail
 refine(By _ _ 3 3 _ _ _ _ _ rq rp (by omega)).mono ?_
 rintro e w4 ⟨rfl,hb4⟩
 have ro4:=(ro3.below ((bP _ _).alloc (aX _) _)).below hb4
 have hbE:=(hbD.alloc hbD.size _).trans (hb4.mono (by have:=hbD.size;simp;omega))
 have rt:=ro4.take 1 (by omega)
 have htx:=Le w1.heap.size
 have HT:=eK htx
 clear htx rp rq hown3 hb4 ro4 ro3 ro2
 go_wp2_with fail
 refine(Cs _ 1 3 _ _ rt (by omega) ?_).mono ?_
 ·intro o ho
  simp[ex] at ho
  subst ho
  unfold QG ui;simp
 rintro e w5 ⟨rfl,hb5⟩
 rw[HT.out]
 go_wp2_with fail
 go_ret
 exact⟨rfl,hbE.trans (hb5.mono hbE.size)⟩
end Go.Proofs.YtkfgimjmgfoneaaGreatDoor
namespace Go.Proofs.YtkfgimjmgfoneaaGreatDoor
open Go Go.RowKit
theorem Dm:Ok Tryz.prog 4 [] [.c (.b true)]:=⟨by kernel_rfl,fun av vs w _ hrd=>by
 obtain rfl:vs= #[]:=by
  have h:=hrd.1
  simp at h
  exact h
 exact(Fk w).mono fun e w' ⟨he,hb⟩=>⟨_,he,RdC.b _,hb⟩⟩
theorem Tn {o:Opn}(vD: ∀v∈o.ds,v≤9223372036854775807) {D:List It}(hD: ∀x∈D,ItB x) (lI:D.length≤3518437208780) {L:List Tl}(lL:L.length≤9223372036854775807):Ok Tryz.prog 3 [.a (([.i .i64 o.kd]++[.i .i64 o.ft]++[.i .i64 o.tl]++[.s o.ds.length (aj jp o.ds)]++[.i .i64 o.lv])),.c (.s D.length (aj oZ D)),.c (.s L.length (aj iA L))] [.c (.b true)]:=by
 refine bS Tryz.func3 rfl<|ac rfl (Dm)<|nE rfl<|ac rfl (Q5 hD lI) ?_
 refine dF (au rfl) (fun c1 hb1=>?_)
 cases c1
 ·refine ac rfl (QZ (Df hD) (iz Jy (by omega))) ?_
  refine dF (au rfl) (fun c2 hb2=>?_)
  cases c2
  ·refine ac rfl (RY lL) ?_
   refine dF (au rfl) (fun c3 hb3=>?_)
   cases c3
   ·refine ar (aS (n:=1) (us:=aj Cw [o]) SK rfl rfl rfl (by decide) (by decide) rfl) ?_
    refine ac rfl (Qf (O:=[o]) (dG rfl)) ?_
    refine cd rfl (fun hc4=>?_) (fun hc4=>?_)
    ·exact ag (am aa)
    ·have pv:oB (BH D) (qu D)=0:=bne_eq_false_iff_eq.1 hb2
     obtain⟨f4,f5,f6⟩:=OE pv
     obtain⟨l8,m0⟩:=KM (show Aa L=true by simpa using hb3)
     have lD:=PE (show Co [o] 20=true by simpa using hc4)
     refine cS 11 [] ?_
     refine aO rfl (Sv l8) ?_
     refine aO rfl (Qy (Df hD) f4 f6 l8 m0 (by omega) vD) ?_
     refine aO rfl (N0 (Df hD) f4 f6 l8 m0 (by omega) vD)<|ag ?_
     rw[show(mh (qu D) L o==n5 (qu D) L o)=true from beq_iff_eq.2 (PJ fun i hi=>(yX (f6 i hi)).2.1)]
     exact am aa
   ·refine kG rfl ?_
    exact ag (am aa)
  ·refine ar (au rfl)<|kG rfl ?_
   exact ag (am aa)
 ·refine ar (au rfl)<|ar (au rfl)<|kG rfl ?_
  exact ag (am aa)
end Go.Proofs.YtkfgimjmgfoneaaGreatDoor
namespace Go.Proofs.YtkfgimjmgfoneaaGreatDoor
open Go.ChangeShapes Go.WideShapes Go.ChangeAt Go.RowKit Go.Deep
theorem own:ownKnob Tryz.prog.godebug=none:=by kernel_rfl
theorem ym:laidOutB Tryz.prog=true:=by kernel_rfl
def zj:Nat→Prop:=fun _=>False
section
variable {H:Type}{enc:TypeId×Value→H}{w:World}{base:Nat}{spare:Nat→Bool}{held:Bool}
theorem zZ {α:Type}{p:Nat→α→Prop}: ∀(n:Nat),(∀i,i<n→ ∃a,p i a)→ ∃l:List α,l.length=n∧ ∀i a,l[i]? =some a→p i a
 |0,_=>⟨[],rfl,fun i a h=>by simp at h⟩
 |n+1,h=>by
  obtain⟨l,hl,hp⟩:=zZ n (fun i hi=>h i (by omega))
  obtain⟨a,ha⟩:=h n (by omega)
  refine⟨l++[a],by simp[hl],fun i b hb=>?_⟩
  rcases jb i n with h1|h1
  ·rw[v7 (by omega)] at hb;exact hp i b hb
  ·rw[wu (by omega)] at hb
   have:i=n:=by
    rcases jb (i-l.length) 1 with h2|h2
    ·omega
    ·rw[oM (by simpa using h2)] at hb;cases hb
   subst this
   rw[hl] at hb;simp at hb;subst hb;exact ha
theorem Ek (a:Addr) (k:Nat) (v:Value) (h:w.cell? (a.add k)=some v):w.cell? ⟨a.block,a.off+k,none⟩=some v:=by
 obtain⟨b,off,spot⟩:=a
 by_cases hk:k=0
 ·subst hk
  have hs:spot=none:=by simpa [Addr.add] using World.cell?_spot h
  subst hs
  simpa [Addr.add] using h
 ·simpa [Addr.add,hk] using h
theorem Jl (a:Addr) (v:Value) (h:w.cell? (a.add 0)=some v):a=⟨a.block,a.off,none⟩:=by
 obtain⟨b,off,spot⟩:=a
 have hs:spot=none:=by simpa [Addr.add] using World.cell?_spot h
 subst hs;rfl
theorem O0 (b off:Nat) (v:Value) (h:w.cell? ⟨b,off,none⟩=some v):b<w.heap.size:=World.block_lt_of_cell? w _ h
theorem Pm {f:FuncId}{ds:List D0}{vs:Array Value}{W:World}(h:Ok Tryz.prog f ds [.c (.b true)]) (hr:RdL zj W vs.toList ds):Calls Tryz.prog f vs W fun e W'=>e=.returned (.bool true)∧Below W.heap.size W W':=
 (h.run zj vs W (fun _ h=>h.elim) hr).mono fun e w' ⟨v,e1,h1,h2⟩=>by
  have:=ru h1
  subst this
  exact⟨e1,h2⟩
end
end Go.Proofs.YtkfgimjmgfoneaaGreatDoor
namespace Go.Proofs.YtkfgimjmgfoneaaGreatDoor
open Go Go.RowKit
end Go.Proofs.YtkfgimjmgfoneaaGreatDoor
namespace Go.Proofs.YtkfgimjmgfoneaaGreatDoor
open Go.ChangeShapes Go.WideShapes Go.ChangeAt Go.RowKit Go.Deep
variable {cs:List Value}{c fuel m n:Nat}{A:Option Addr}{e t:TypeId}
theorem vr {α:Type}{m:Nat}: ∀(L:List (List α)),(∀x∈L,x.length=m)→L.flatten.length=L.length*m
 |[],_=>by simp
 |y::L,h=>by
  rw[qv,bN,vr L (fun x hx=>h x (gi _ hx)),h y (fW ..),tI,gP];omega
theorem EG {α:Type}{m:Nat}: ∀(L:List (List α)) (i q:Nat) (x:List α),(∀x∈L,x.length=m)→L[i]? =some x→q<m→L.flatten[i*m+q]? =x[q]?
 |[],i,q,x,_,h,_=>by simp at h
 |y::L,0,q,x,hm,h,hq=>by
  simp at h
  subst h
  rw[qv,v7 (by rw[hm y (fW ..)];omega)]
  congr 1;omega
 |y::L,i+1,q,x,hm,h,hq=>by
  rw[qv,wu (by rw[hm y (fW ..),gP];omega),hm y (fW ..),show(i+1)*m+q-m=i*m+q from by rw[gP];omega]
  exact EG L i q x (fun x hx=>hm x (gi _ hx)) (by simpa using h) hq
theorem zT {α:Type}{m:Nat}: ∀(L:List (List α)) (i:Nat) (x:List α),(∀x∈L,x.length=m)→L[i]? =some x→(L.flatten.drop (i*m)).take m=x
 |[],i,x,_,h=>by simp at h
 |y::L,0,x,hm,h=>by
  simp at h
  subst h
  rw[tK,od,qv,←hm y (fW ..)]
  simp
 |y::L,i+1,x,hm,h=>by
  rw[qv,gP,Nat.add_comm,←List.drop_drop,Nat.one_mul]
  have:(y++L.flatten).drop m=L.flatten:=by rw[←hm y (fW ..)];simp
  rw[this]
  exact zT L i x (fun x hx=>hm x (gi _ hx)) (by simpa using h)
section
variable {H:Type}{enc:TypeId×Value→H}{P:Program}{w:World}{base:Nat}{spare:Nat→Bool}{held:Bool}
theorem D3 {V:Nat→Prop}: ∀(L:List (List Value×List CellD)),(∀p∈L,RdCs V w p.1 p.2)→RdCs V w (L.map (·.1)).flatten (L.map (·.2)).flatten
 |[],_=>lu
 |p::L,h=>by
  rw[mR,mR,qv,qv]
  exact(h p (fW ..)).append (D3 L fun q hq=>h q (gi _ hq))
theorem CP (ht:P.underlying t=some (.slice e)) (hc:P.cellsOf e=m) (hm:0<m) {Q:List CellD→Prop}
 (hel: ∀fuel cs x,DataW.trod enc P w base spare held fuel e cs=some x→ ∃us,us.length=m∧Q us∧RdCs zj w cs us) {fuel:Nat}{v:Value}{x:DataW H×List MemPlace}(h:DataW.trod enc P w base spare held fuel t [v]=some x):
 ∃(n:Nat) (us:List CellD),us.length=n*m∧n≤maxLen∧(∀j,j<n→Q ((us.drop (j*m)).take m))∧RdC zj w v (.s n us):=by
 rcases open_slice ht h with⟨hcs,_⟩|⟨a,len,cap,k,n,D,Pl,hcs,_,hl,hk,hkk,_,hi⟩
 ·simp at hcs;subst hcs
  exact⟨0,[],by simp,by decide,fun j hj=>by omega,.s0 none 0 (by omega)⟩
 ·simp at hcs;subst hcs
  rw[hc] at hi
  obtain⟨l,hll,hp⟩:=zZ (p:=fun j (z:List Value×List CellD)=>z.1.length=m∧z.2.length=m∧Q z.2∧RdCs zj w z.1 z.2∧ ∀i,i<m→w.cell? (a.add (j*m+i))=z.1[i]?) len (fun j hj=>by
   obtain⟨cs',h1,h2⟩:=hi j (by rw[hkk];split<;>omega)
   obtain⟨us,e1,e2,e3⟩:=hel _ _ _ h2
   obtain⟨_,hlen,hcell⟩:=World.cells?_some h1
   exact⟨(cs',us),hlen,e1,e2,e3,fun i hi=>by rw[←hcell i hi,add_add]⟩)
  have hmem: ∀z∈l,z.1.length=m∧z.2.length=m∧RdCs zj w z.1 z.2:=fun z hz=>by
   obtain⟨i,hi⟩:=List.getElem?_of_mem hz
   exact⟨(hp i z hi).1,(hp i z hi).2.1,(hp i z hi).2.2.2.1⟩
  have m1: ∀x∈l.map (·.1),x.length=m:=fun x hx=>by obtain⟨z,hz,rfl⟩:=rd.1 hx;exact(hmem z hz).1
  have m2: ∀x∈l.map (·.2),x.length=m:=fun x hx=>by obtain⟨z,hz,rfl⟩:=rd.1 hx;exact(hmem z hz).2.1
  have hrd:=D3 (w:=w) (V:=zj) l (fun p hp=>(hmem p hp).2.2)
  have hvl:(l.map (·.1)).flatten.length=len*m:=by rw[vr _ m1,qy,hll]
  have hul:(l.map (·.2)).flatten.length=len*m:=by rw[vr _ m2,qy,hll]
  refine⟨len,(l.map (·.2)).flatten,hul,by omega,fun j hj=>?_,?_⟩
  ·have hj2:l[j]? =some l[j]:=d7 (by omega)
   rw[zT _ j l[j].2 m2 (by rw[oG,hj2];rfl)]
   exact(hp j _ hj2).2.2.1
  ·unfold maxLen at hk
   by_cases h0:len=0
   ·subst h0
    have:l=[]:=ic.1 hll
    subst this
    exact .s0 _ _ (by omega)
   ·have hcell: ∀j,j<len*m→ ∃v,(l.map (·.1)).flatten[j]? =some v∧w.cell? (a.add j)=some v:=by
     intro j hj
     have hd:j/m<len:=Nat.div_lt_of_lt_mul (by rw[Nat.mul_comm];exact hj)
     have hq:j%m<m:=Nat.mod_lt _ hm
     have e:j=j/m*m+j%m:=by rw[Nat.mul_comm];exact(Nat.div_add_mod j m).symm
     have hj2:l[j/m]? =some l[j/m]:=d7 (by omega)
     have h1:=EG (l.map (·.1)) (j/m) (j%m) l[j/m].1 m1 (by rw[oG,hj2];rfl) hq
     have h2:=(hp _ _ hj2).2.2.2.2 (j%m) hq
     rw[←e] at h1 h2
     refine⟨_,d7 (by omega),?_⟩
     rw[h2,←h1,d7 (by omega)]
    obtain⟨v0,_,h00⟩:=hcell 0 (Nat.mul_pos (by omega) hm)
    have ea:=Jl a _ h00
    rw[ea]
    refine .s a.block a.off cap m len _ (fun j=>(l.map (·.1)).flatten.getD j undef) (by omega) hl (by omega) hul (O0 _ _ _ (by have:=Ek a 0 _ h00;simpa using this)) (fun h=>h) (fun j hj=>?_) (fun j u hu=>?_)
    ·obtain⟨v,e1,e2⟩:=hcell j hj
     rw[Ek a j _ e2]
     simp[List.getD,e1]
    ·have hj:j<len*m:=by rw[←hul];exact(gF.1 hu).1
     obtain⟨v,e1,e2⟩:=hcell j hj
     simp only[List.getD,e1,Option.getD_some]
     exact hrd.2 j v u e1 hu
end
theorem S4 {α:Type}{en:α→List CellD}{m:Nat}(he: ∀x,(en x).length=m) {φ:Nat→α}: ∀(n:Nat) (us:List CellD),us.length=n*m→(∀j,j<n→(us.drop (j*m)).take m=en (φ j))→us=aj en ((List.range n).map φ)
 |0,us,hl,_=>ic.1 (by omega)
 |n+1,us,hl,h=>by
  rw[gP] at hl
  have h1:=S4 he n (us.take (n*m)) (by rw[cX];omega) fun j hj=>by
   rw[←h j (by omega),List.drop_take,List.take_take]
   congr 1
   have:=nf m (show j+1≤n by omega)
   rw[gP] at this
   omega
  rw[sA,qO,ck,←h1]
  show us=us.take (n*m)++aj en [φ n]
  rw[dt,←h n (by omega),show(us.drop (n*m)).take m=us.drop (n*m) from fp (by rw[dz];omega)]
  exact(vF _ _).symm
section
variable {H:Type}{enc:TypeId×Value→H}{P:Program}{w:World}{base:Nat}{spare:Nat→Bool}{held:Bool}
theorem rg {α:Type}{en:α→List CellD}{B:α→Prop}(d:α) (ht:P.underlying t=some (.slice e)) (hc:P.cellsOf e=m) (hm:0<m) (he: ∀x,(en x).length=m)
 (hel: ∀fuel cs x,DataW.trod enc P w base spare held fuel e cs=some x→ ∃r,B r∧RdCs zj w cs (en r)) {fuel:Nat}{v:Value}{x:DataW H×List MemPlace}(h:DataW.trod enc P w base spare held fuel t [v]=some x):
 ∃L:List α,(∀r∈L,B r)∧L.length≤9223372036854775807∧RdC zj w v (.s L.length (aj en L)):=by
 obtain⟨n,us,h1,h2,h3,h4⟩:=CP (m:=m) (Q:=fun us=> ∃r:α,B r∧us=en r) ht hc hm (fun fuel cs x h=>by
  obtain⟨r,w1,hr⟩:=hel fuel cs x h
  exact⟨_,he r,⟨r,w1,rfl⟩,hr⟩) h
 have key: ∀j,∃r:α,j<n→B r∧(us.drop (j*m)).take m=en r:=fun j=>by
  by_cases hj:j<n
  ·obtain⟨r,w1,e⟩:=h3 j hj
   exact⟨r,fun _=>⟨w1,e⟩⟩
  ·exact⟨d,fun q=>absurd q hj⟩
 obtain⟨φ,hφ⟩:=Classical.axiomOfChoice key
 have e:=S4 he (φ:=φ) n us h1 fun j hj=>(hφ j hj).2
 refine⟨(List.range n).map φ,fun r hr=>?_,by rw[qy,List.length_range];exact h2,?_⟩
 ·obtain⟨j,hj,rfl⟩:=rd.1 hr
  exact(hφ j (cF.1 hj)).1
 ·rw[←e,qy,List.length_range];exact h4
theorem MD {V:Nat→Prop}{k:Nat}{xs:List CellD}(h:RdC V w (.slice A n c) (.s k xs)):n=k:=by
 cases h<;>rfl
theorem CJ {x:DataW H×List MemPlace}(ht:P.underlying t=some (.slice e)) (h:DataW.trod enc P w base spare held fuel t [.slice A n c]=some x) (hw: ∀k∈x.1.weights P t,k≤reachBytes):n*P.bytesOf e≤reachBytes:=by
 rcases open_slice ht h with⟨hcs,_⟩|⟨a,len,cap,k,m,D,Pl,hcs,_,hl,hk,hkk,rfl,hi⟩
 ·simp at hcs
  rw[hcs.2.1,tK];exact cY _
 ·simp at hcs
  simp only[DataW.weights,ht] at hw
  have h1:=hw _ (fW ..)
  rw[qy,List.length_range,gP,←hcs.2.1] at h1
  omega
end
section
variable {H:Type}{enc:TypeId×Value→H}{w:World}{base:Nat}{spare:Nat→Bool}{held:Bool}
theorem jK (ht:Tryz.prog.underlying t=some (.int .i64)) {x:DataW H×List MemPlace}(h:DataW.trod enc Tryz.prog w base spare held fuel t cs=some x): ∃v:Int,v≤9223372036854775807∧RdCs zj w cs (jp v):=by
 obtain⟨A,rfl,_,g⟩:=DataW.trod_int ht h
 simp[Lit.wf,IntKind.min,IntKind.max,IntKind.signed,IntKind.bits] at g
 exact⟨A,by omega,j5 (.i _ _) lu⟩
theorem tP {x:DataW H×List MemPlace}(h:DataW.trod enc Tryz.prog w base spare held fuel 54 cs=some x): ∃v:Int,zQ v∧RdCs zj w cs [.i .i8 v]:=by
 obtain⟨A,rfl,_,g⟩:=DataW.trod_int Tryz.underlying54 h
 simp[Lit.wf,IntKind.min,IntKind.max,IntKind.signed,IntKind.bits] at g
 exact⟨A,⟨by omega,by omega⟩,j5 (.i _ _) lu⟩
theorem BR {x:DataW H×List MemPlace}(h:DataW.trod enc Tryz.prog w base spare held fuel 5 cs=some x): ∃v:Int,(0≤v∧v≤255)∧RdCs zj w cs [.i .u8 v]:=by
 obtain⟨A,rfl,_,g⟩:=DataW.trod_int Tryz.underlying5 h
 simp[Lit.wf,IntKind.min,IntKind.max,IntKind.signed,IntKind.bits] at g
 exact⟨A,⟨by omega,by omega⟩,j5 (.i _ _) lu⟩
set_option maxRecDepth 100000 in
theorem Qn {x:DataW H×List MemPlace}(h:DataW.trod enc Tryz.prog w base spare held fuel 24 cs=some x):
 ∃o:Opn,(∀v∈o.ds,v≤9223372036854775807)∧RdCs zj w cs (Cw o):=by
 obtain⟨xs,n,_,_,hcl,hxl,hf⟩:=DataW.trod_struct (P:=Tryz.prog) Tryz.underlying24 h
 have hcl:cs.length=5:=hcl.trans (by kernel_rfl)
 have hxl:xs.length=5:=hxl.trans (by kernel_rfl)
 match cs,hcl with
 |[c0,c1,c2,c3,c4],_=>
  have h0:DataW.trod enc Tryz.prog w base spare held n 3 [c0]=xs[0]? :=hf 0 _ rfl
  have h1:DataW.trod enc Tryz.prog w base spare held n 3 [c1]=xs[1]? :=hf 1 _ rfl
  have h2:DataW.trod enc Tryz.prog w base spare held n 3 [c2]=xs[2]? :=hf 2 _ rfl
  have h3:DataW.trod enc Tryz.prog w base spare held n 22 [c3]=xs[3]? :=hf 3 _ rfl
  have h4:DataW.trod enc Tryz.prog w base spare held n 2 [c4]=xs[4]? :=hf 4 _ rfl
  rw[d7 (by omega)] at h0 h1 h2 h3 h4
  obtain⟨k,_,r0⟩:=jK tT h0
  obtain⟨f,_,r1⟩:=jK tT h1
  obtain⟨t,_,r2⟩:=jK tT h2
  obtain⟨ds,b3,_,r3⟩:=rg (B:=fun v=>v≤9223372036854775807) (en:=jp) (0:Int) Tryz.underlying22 (by kernel_rfl) (by decide) fJ (fun fuel cs x h=>jK tM h) h3
  obtain⟨l,_,r4⟩:=jK tM h4
  exact⟨⟨k,f,t,ds,l⟩,b3,dm (dm (dm (dm r0 r1) r2) (j5 r3 lu)) r4⟩
set_option maxRecDepth 100000 in
theorem LO {x:DataW H×List MemPlace}(h:DataW.trod enc Tryz.prog w base spare held fuel 42 cs=some x): ∃t:Tl,True∧RdCs zj w cs (iA t):=by
 obtain⟨xs,n,_,_,hcl,hxl,hf⟩:=DataW.trod_struct (P:=Tryz.prog) Tryz.underlying42 h
 have hcl:cs.length=8:=hcl.trans (by kernel_rfl)
 have hxl:xs.length=8:=hxl.trans (by kernel_rfl)
 match cs,hcl with
 |[c0,c1,c2,c3,c4,c5,c6,c7],_=>
  have h0:DataW.trod enc Tryz.prog w base spare held n 3 [c0]=xs[0]? :=hf 0 _ rfl
  have h1:DataW.trod enc Tryz.prog w base spare held n 3 [c1]=xs[1]? :=hf 1 _ rfl
  have h2:DataW.trod enc Tryz.prog w base spare held n 2 [c2]=xs[2]? :=hf 2 _ rfl
  have h3:DataW.trod enc Tryz.prog w base spare held n 2 [c3]=xs[3]? :=hf 3 _ rfl
  have h4:DataW.trod enc Tryz.prog w base spare held n 2 [c4]=xs[4]? :=hf 4 _ rfl
  have h5:DataW.trod enc Tryz.prog w base spare held n 2 [c5]=xs[5]? :=hf 5 _ rfl
  have h6:DataW.trod enc Tryz.prog w base spare held n 2 [c6]=xs[6]? :=hf 6 _ rfl
  have h7:DataW.trod enc Tryz.prog w base spare held n 2 [c7]=xs[7]? :=hf 7 _ rfl
  rw[d7 (by omega)] at h0 h1 h2 h3 h4 h5 h6 h7
  obtain⟨a0,_,r0⟩:=jK tT h0
  obtain⟨a1,_,r1⟩:=jK tT h1
  obtain⟨a2,_,r2⟩:=jK tM h2
  obtain⟨a3,_,r3⟩:=jK tM h3
  obtain⟨a4,_,r4⟩:=jK tM h4
  obtain⟨a5,_,r5⟩:=jK tM h5
  obtain⟨a6,_,r6⟩:=jK tM h6
  obtain⟨a7,_,r7⟩:=jK tM h7
  exact⟨⟨a0,a1,a2,a3,a4,a5,a6,a7⟩,trivial,dm (dm (dm (dm (dm (dm (dm r0 r1) r2) r3) r4) r5) r6) r7⟩
theorem LP {x:DataW H×List MemPlace}(h:DataW.trod enc Tryz.prog w base spare held fuel 172 cs=some x): ∃q:Int×Int,(zQ q.1∧zQ q.2)∧RdCs zj w cs (oL q):=by
 obtain⟨xs,n,_,_,hcl,hxl,hf⟩:=DataW.trod_array (P:=Tryz.prog) Tryz.underlying172 h
 have hcl:cs.length=2:=hcl.trans (by kernel_rfl)
 have hce:Tryz.prog.cellsOf 54=1:=by kernel_rfl
 rw[hce] at hf
 match cs,hcl with
 |[c0,c1],_=>
  have h0:DataW.trod enc Tryz.prog w base spare held n 54 [c0]=xs[0]? :=hf 0 (by omega)
  have h1:DataW.trod enc Tryz.prog w base spare held n 54 [c1]=xs[1]? :=hf 1 (by omega)
  rw[d7 (by omega)] at h0 h1
  obtain⟨a,b0,r0⟩:=tP h0
  obtain⟨b,b1,r1⟩:=tP h1
  exact⟨(a,b),⟨b0,b1⟩,dm r0 r1⟩
set_option maxRecDepth 100000 in
theorem Lf {x:DataW H×List MemPlace}(h:DataW.trod enc Tryz.prog w base spare held fuel 128 cs=some x): ∃f:Fm,FmB f∧RdCs zj w cs (jZ f):=by
 obtain⟨xs,n,_,_,hcl,hxl,hf⟩:=DataW.trod_struct (P:=Tryz.prog) Tryz.underlying128 h
 have hcl:cs.length=7:=hcl.trans (by kernel_rfl)
 have hxl:xs.length=7:=hxl.trans (by kernel_rfl)
 match cs,hcl with
 |[c0,c1,c2,c3,c4,c5,c6],_=>
  have h0:DataW.trod enc Tryz.prog w base spare held n 5 [c0]=xs[0]? :=hf 0 _ rfl
  have h1:DataW.trod enc Tryz.prog w base spare held n 5 [c1]=xs[1]? :=hf 1 _ rfl
  have h2:DataW.trod enc Tryz.prog w base spare held n 54 [c2]=xs[2]? :=hf 2 _ rfl
  have h3:DataW.trod enc Tryz.prog w base spare held n 54 [c3]=xs[3]? :=hf 3 _ rfl
  have h4:DataW.trod enc Tryz.prog w base spare held n 54 [c4]=xs[4]? :=hf 4 _ rfl
  have h5:DataW.trod enc Tryz.prog w base spare held n 54 [c5]=xs[5]? :=hf 5 _ rfl
  have h6:DataW.trod enc Tryz.prog w base spare held n 126 [c6]=xs[6]? :=hf 6 _ rfl
  rw[d7 (by omega)] at h0 h1 h2 h3 h4 h5 h6
  obtain⟨k,b0,r0⟩:=BR h0
  obtain⟨u,b1,r1⟩:=BR h1
  obtain⟨a,b2,r2⟩:=tP h2
  obtain⟨b,b3,r3⟩:=tP h3
  obtain⟨c,b4,r4⟩:=tP h4
  obtain⟨d,b5,r5⟩:=tP h5
  obtain⟨L,b6,_,r6⟩:=rg (B:=fun q:Int×Int=>zQ q.1∧zQ q.2) (en:=oL) sm Tryz.underlying126 (by kernel_rfl) (by decide) i5 (fun fuel cs x h=>LP h) h6
  exact⟨⟨k,u,a,b,c,d,L⟩,⟨b0,b1,b2,b3,b4,b5,b6⟩,dm (dm (dm (dm (dm (dm r0 r1) r2) r3) r4) r5) (j5 r6 lu)⟩
set_option maxRecDepth 100000 in
theorem Lz {x:DataW H×List MemPlace}(h:DataW.trod enc Tryz.prog w base spare held fuel 56 cs=some x): ∃f:It,ItB f∧RdCs zj w cs (oZ f):=by
 obtain⟨xs,n,_,_,hcl,hxl,hf⟩:=DataW.trod_struct (P:=Tryz.prog) Tryz.underlying56 h
 have hcl:cs.length=6:=hcl.trans (by kernel_rfl)
 have hxl:xs.length=6:=hxl.trans (by kernel_rfl)
 match cs,hcl with
 |[c0,c1,c2,c3,c4,c5],_=>
  have h0:DataW.trod enc Tryz.prog w base spare held n 5 [c0]=xs[0]? :=hf 0 _ rfl
  have h1:DataW.trod enc Tryz.prog w base spare held n 5 [c1]=xs[1]? :=hf 1 _ rfl
  have h2:DataW.trod enc Tryz.prog w base spare held n 5 [c2]=xs[2]? :=hf 2 _ rfl
  have h3:DataW.trod enc Tryz.prog w base spare held n 53 [c3]=xs[3]? :=hf 3 _ rfl
  have h4:DataW.trod enc Tryz.prog w base spare held n 54 [c4]=xs[4]? :=hf 4 _ rfl
  have h5:DataW.trod enc Tryz.prog w base spare held n 54 [c5]=xs[5]? :=hf 5 _ rfl
  rw[d7 (by omega)] at h0 h1 h2 h3 h4 h5
  obtain⟨k,b0,r0⟩:=BR h0
  obtain⟨m,b1,r1⟩:=BR h1
  obtain⟨d,b2,r2⟩:=BR h2
  obtain⟨L,b3,l3,r3⟩:=rg (B:=FmB) (en:=jZ) js Tryz.underlying53 (by kernel_rfl) (by decide) eD (fun fuel cs x h=>Lf h) h3
  obtain⟨a,b4,r4⟩:=tP h4
  obtain⟨b,b5,r5⟩:=tP h5
  exact⟨⟨k,m,d,L,a,b⟩,⟨b0,b1,b2,b4,b5,b3,l3⟩,dm (dm (dm (dm (dm r0 r1) r2) (j5 r3 lu)) r4) r5⟩
theorem GS {x:DataW H×List MemPlace}(h:DataW.trod enc Tryz.prog w base spare held fuel 26 [.slice A n c]=some x):
 ∃D:List It,(∀f∈D,ItB f)∧D.length=n∧RdC zj w (.slice A n c) (.s D.length (aj oZ D)):=by
 obtain⟨D,b,_,r⟩:=rg (B:=ItB) (en:=oZ) bg Tryz.underlying26 (by kernel_rfl) (by decide) j6 (fun fuel cs x h=>Lz h) h
 exact⟨D,b,(MD r).symm,r⟩
theorem Fl {v:Value}{x:DataW H×List MemPlace}(h:DataW.trod enc Tryz.prog w base spare held fuel 27 [v]=some x):
 ∃L:List Tl,L.length≤9223372036854775807∧RdC zj w v (.s L.length (aj iA L)):=by
 obtain⟨L,_,l,r⟩:=rg (B:=fun _=>True) (en:=iA) dA Tryz.underlying27 (by kernel_rfl) (by decide) dB (fun fuel cs x h=>LO h) h
 exact⟨L,l,r⟩
end
end Go.Proofs.YtkfgimjmgfoneaaGreatDoor
namespace Go.Proofs.YtkfgimjmgfoneaaGreatDoor
open Go.ChangeShapes Go.WideShapes Go.ChangeAt Go.RowKit
set_option maxRecDepth 100000 in
theorem sC (H:Type) (enc:TypeId×Value→H) (W:World) (base:Nat) (args:Array Value) (ds gs:List (DataW H)) (before:List MemPlace)
 (hval0: ∀(j:Nat) t v,Tryz.f3.params[j]? =some t→args[j]? =some v→Value.okWide Tryz.prog W .any base t v)
 (hW:DataW.Whole enc Tryz.prog Tryz.f3.params.toList Rows.operationValidSpec.vars false W args.toList ds gs before) (hwt:(DataW.weightsEach Tryz.prog (Tryz.f3.params.toList++(OpenSpec.ofChange Rows.operationValidSpec).bare.plain.varTypes Tryz.prog) (ds++gs)).all (· ≤reachBytes)=true):
 Calls Tryz.prog 3 args W fun e W'=> ∃v,e=.returned v∧Rows.operationValidSpec.post enc Tryz.prog Tryz.f3 false true false false W args v W':=by
 have hval: ∀(j:Nat) t v,Tryz.f3.params[j]? =some t→args[j]? =some v→Value.okWide Tryz.prog W .any base t v:=hval0
 have hW':=hW
 obtain⟨p,q,hA0,hV,rfl,hfz,hnd⟩:=hW
 have hA:DataW.TrodAll enc Tryz.prog W 0 (fun _=>true) true Tryz.f3.params.toList args.toList ds p:=hA0
 rw[Tryz.params3] at hA hval hwt
 obtain⟨v0,vs0,d0,ds0,p0,q0,hargs,rfl,rfl,h0,r0⟩:=trodAll_cons hA
 obtain⟨v1,vs1,d1,ds1,p1,q1,rfl,rfl,rfl,h1,r1⟩:=trodAll_cons r0
 obtain⟨v2,vs2,d2,ds2,p2,q2,rfl,rfl,rfl,h2,r2⟩:=trodAll_cons r1
 obtain⟨rfl,rfl,rfl⟩:=trodAll_nil r2
 obtain rfl:args= #[v0,v1,v2]:=by cases args;simp_all
 obtain⟨rfl,rfl⟩:=trodVars_none hV
 obtain⟨a0,rfl,_⟩:=okWide_struct Tryz.underlying24 (hval 0 24 v0 rfl rfl)
 have k0:=h0
 have lt0: ∀x∈p0,x.block<W.heap.size:=by obtain⟨m,hm⟩:=k0;exact DataW.trod_lt m _ _ _ hm
 obtain⟨A1,len1,cap1,rfl⟩:=okWide_slice Tryz.underlying26 (hval 1 26 v1 rfl rfl)
 have k1:=h1
 have lt1: ∀x∈p1,x.block<W.heap.size:=by obtain⟨m,hm⟩:=k1;exact DataW.trod_lt m _ _ _ hm
 obtain⟨A2,len2,cap2,rfl⟩:=okWide_slice Tryz.underlying27 (hval 2 27 v2 rfl rfl)
 have k2:=h2
 have lt2: ∀x∈p2,x.block<W.heap.size:=by obtain⟨m,hm⟩:=k2;exact DataW.trod_lt m _ _ _ hm
 obtain⟨o,vD,hr0⟩:=Qn (show DataW.trod enc Tryz.prog W 0 _ _ h0.choose 24 a0.toList=some _ from h0.choose_spec)
 obtain⟨D,hD,lD,hr1⟩:=GS (show DataW.trod enc Tryz.prog W 0 _ _ h1.choose 26 [_]=some _ from h1.choose_spec)
 obtain⟨L,lL,hr2⟩:=Fl (show DataW.trod enc Tryz.prog W 0 _ _ h2.choose 27 [_]=some _ from h2.choose_spec)
 have hw1: ∀k∈d1.weights Tryz.prog 26,k≤reachBytes:=fun k hk=>of_decide_eq_true (jc.1 hwt k (by
  show k∈DataW.weightsEach Tryz.prog (24::26::27::_) (d0::d1::d2::_)
  simp only[DataW.weightsEach,gn]
  exact .inr (.inl hk)))
 have hb:=CJ Tryz.underlying26 (show DataW.trod enc Tryz.prog W 0 _ _ h1.choose 26 [_]=some _ from h1.choose_spec) hw1
 rw[show Tryz.prog.bytesOf 56=40 by kernel_rfl,←lD] at hb
 have lI:D.length≤3518437208780:=by unfold reachBytes at hb;omega
 clear hA0 hval0
 refine(Pm (Tn vD hD lI lL) (ou ⟨a0,rfl,hr0⟩ (ou hr1 (ou hr2 RdL.nil)))).mono fun e W' ⟨he,bel⟩=>?_
 subst he
 exact⟨_,rfl,_,_,_,[],_,[],hW',trodAll_mk1 (shut_bool Tryz.underlying4 _),(trodAll_cons_mk (Below.trod ym (by kernel_rfl) (of_decide_eq_true (by kernel_rfl)) k0 bel lt0) (trodAll_cons_mk (Below.trod ym (by kernel_rfl) (of_decide_eq_true (by kernel_rfl)) k1 bel lt1) (trodAll_cons_mk (Below.trod ym (by kernel_rfl) (of_decide_eq_true (by kernel_rfl)) k2 bel lt2) trodAll_mk0))),rfl,bel.frame _,fun h=>by cases h⟩
def yd:Array Value:= #[.agg #[.int .i64 0,.int .i64 0,.int .i64 0,.slice none 0 0,.int .i64 0],.slice none 0 0,.slice none 0 0]
theorem Pk (os:Os):laidMetH Tryz.prog Rows.operationValidRow.laid ((World.doorLaid Tryz.prog 24 os).forCall (fun _ _=>0) ⟨#[],yd,[]⟩).memory:=
 laidMetH_of_parts3 (fuel:=8) (laidMet_of_run' 8 (by kernel_rfl) (by kernel_rfl)) (by kernel_rfl) (by kernel_rfl)
theorem If (os:Os) {H:Type}(enc:TypeId×Value→H):DataW.whole enc Tryz.prog ((World.doorLaid Tryz.prog 24 os).forCall (fun _ _=>0) ⟨#[],yd,[]⟩).memory Tryz.f3.params.toList Rows.operationValidSpec.vars false yd.toList 8=
 some ([.agg [.lit (.int .i64 0),.lit (.int .i64 0),.lit (.int .i64 0),.nil,.lit (.int .i64 0)],.nil,.nil],[],[]):=by kernel_rfl
set_option maxRecDepth 100000 in
theorem u6 (os:Os) (started:os.Started) (H:Type) (enc:TypeId×Value→H) (F:Stop.Interp):
 ReturnsInHanded {} Tryz.checked os 3 .any ((OpenSpec.ofChange Rows.operationValidSpec).preRow enc Tryz.prog Tryz.f3 Rows.operationValidRow.domain false Rows.operationValidRow.laid) (((OpenSpec.ofChange Rows.operationValidSpec).at F).post enc Tryz.prog Tryz.f3 false true false false):=by
 refine returnsInHanded_of_row (C:=Tryz.checked) (s:=OpenSpec.ofChange Rows.operationValidSpec) own started (by kernel_rfl) Tryz.func3
  (witness_row_at (enc:=enc) (C:=Tryz.checked) false (World.doorLaid Tryz.prog 24 os) yd rfl (by kernel_rfl) (by kernel_rfl) (by kernel_rfl)
   (OpenSpec.preRow_of_cond 8 (If os enc) (by kernel_rfl) (fun k hk=>by cases hk) (by kernel_rfl) (Pk os))) ?_
 intro W base args ds gs before hval hW _ _ hwt _ _ _
 exact sC H enc W base args ds gs before hval hW hwt
theorem CD:Tryz.pinned.checked.prog.funcNamed Rows.operationValidRow.func=some 3:=by kernel_rfl
theorem yU:Rows.OperationValidSaid:=
 OpenClaim.holds_of_cond 3 Tryz.f3 rfl rfl rfl rfl rfl rfl rfl ⟨rfl,rfl,rfl,rfl,rfl⟩ rfl rfl rfl rfl rfl CD Tryz.func3 (by kernel_rfl)
  (of_decide_eq_true (by kernel_rfl)) (by unfold Func.isWrapper;first|(rw[if_pos (by decide+kernel)];kernel_rfl)|(rw[if_neg (by decide+kernel)];exact⟨rfl,rfl⟩))
  (fun os started H enc _ F=>by rw[OpenClaim.pre_eq_preRow];exact u6 os started H enc F)
theorem wV (f:FuncId) (fn:Func) (hf:Tryz.pinned.checked.prog.funcNamed "swarf/swarflaw28.OperationValid" =some f) (hfn:Tryz.pinned.checked.prog.funcs[f]? =some fn):
 false=Tryz.pinned.checked.prog.looks []∧ ∀(j:Nat) t,fn.params[j]? =some t→Tryz.pinned.checked.prog.wantsStandIn t=false:=by
 obtain rfl:f=3:=Option.some.inj ((show Tryz.prog.funcNamed "swarf/swarflaw28.OperationValid" =some 3 by kernel_rfl).symm.trans hf)|>.symm
 obtain rfl:fn=Tryz.f3:=(Option.some.inj (Tryz.func3.symm.trans hfn)).symm
 refine⟨by kernel_rfl,fun j t ht=>?_⟩
 rw[Tryz.params3] at ht
 have hm:t∈ [24,26,27]:=by simpa using Array.mem_of_getElem? ht
 have hall:([24,26,27].all fun u=> !Tryz.prog.wantsStandIn u)=true:=by kernel_rfl
 exact(show Tryz.prog.wantsStandIn t=false by simpa using jc.1 hall t hm)
theorem opvalid_card:Rows.OperationValidCardSaid:=
 Claim7.holds_tied_plain_at .later [] _ _ _ _ yU (fun _ h=>by cases h) (by kernel_rfl) (fun _ h=>by cases h) operationValid_row_tie rfl ⟨rfl,rfl⟩ (by kernel_rfl) rfl wV (by kernel_rfl)
end Go.Proofs.YtkfgimjmgfoneaaGreatDoor
