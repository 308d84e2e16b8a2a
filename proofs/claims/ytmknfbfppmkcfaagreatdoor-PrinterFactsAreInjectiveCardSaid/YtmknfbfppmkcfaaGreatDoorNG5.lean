/-
  PrinterFactsAreInjective: the texts that this claim has beyond those of PrinterPlaces. (part 5)
-/
import Derived.Test.YtmknfbfppmkcfaaGreatDoorNG4
import Derived.Lib.Hide
import Derived.Below
import Derived.WalkSmall
import Derived.Laws.World
import Derived.Test.YtmknfbfppmkcfaaGreatDoorProg
import Derived.WalkKit
import Derived.WalkSpells
import Derived.WalkLawsBesides
import Derived.Deep.RegionHeld3
import Derived.Deep.DeepFit
import Derived.Deep.QuietTactic
import Derived.BigQuiet
import Derived.OwnWalk
import Derived.Maps.AppendAt
import Derived.Deep.DeepCutAuto
import Derived.StillTailTactics
import Derived.Lib.ItoaNum
import Derived.Lib.Join
import Derived.RangeFuncNested
import Derived.RangeFuncBound
import Derived.RangeFuncCalls
import Derived.RangeFuncLeaves
import Derived.OwnWalkIn
import Derived.TacticsInMore
import Derived.LoopNIn
import Derived.LoopIn
import Derived.Lib.ItoaLen
import Derived.Laws.IdiomStrings
import Derived.Shelf.Abstract
import Derived.OrdersHeld
import Derived.Deep.RegionHeld
import Derived.Test.YtmknfbfppmkcfaaGreatDoorSg
import Derived.Maps.OwnSet
import Derived.Maps.OwnOps
import Derived.StringKeys
import Derived.Deep.MidRow
import Derived.Deep.LoopGhost
import Derived.WideKeyPair
import Derived.WideKeyArr
import Derived.Test.YtmknfbfppmkcfaaGreatDoorSj
import Derived.Lib.AppendIntMem
import Derived.Test.YtmknfbfppmkcfaaGreatDoorSh
import Derived.RangeFuncBox
import Derived.Lib.AppendStr
import Derived.Lib.Builder
import Derived.WalkMore
import Derived.ChangeKeysEq
import Derived.Deep.CutBlock
import Derived.Test.YtmknfbfppmkcfaaGreatDoorRows
import Derived.ProofKit
import Derived.Deep.Slices
import Derived.Deep.Fields
import Derived.Lib.SmallJoins
import Derived.OpenShut
import Derived.LaidMore
import Derived.Stop.Joined
import Derived.Stop.LaidErr
import Derived.Lay
import Derived.SevenTiedAt
import Derived.Lib.LaidTab
import Derived.Test.YtmknfbfppmkcfaaGreatDoorTie
import Derived.Test.YtmknfbfppmkcfaaGreatDoorCards
import Derived.JoinedOf
import Derived.SizedLaws
namespace Go.Proofs.YtmknfbfppmkcfaaGreatDoor
set_option maxRecDepth 100000
set_option maxHeartbeats 16000000
section
open Go Go.RowKit
theorem xGX (s t:Ty) (A B:Option Addr) (c d:Nat) (w:World) (hs:Slc 1 RInt w A c s.flds) (ht:Slc 1 RInt w B d t.flds):
 Calls Tryz.prog 59 #[tyAgg s A c,tyAgg t B d] w fun e' w'=>e' = .returned (.bool (decide (s=t)))/\Below w.heap.size w w':=by
 have hle:=hs.le;have hbig:=hs.big;have hle2:=ht.le;have hbig2:=ht.big;have HA:=aF hs;have HB:=aF ht;obtain ⟨k,mu,rg,el,fl⟩:=s;obtain ⟨k2,mu2,rg2,el2,fl2⟩:=t;simp only at HA HB hle hle2;clear hs ht;unfold tyAgg;simp only;obtain ⟨R,hR⟩:∃R,decide ((⟨k,mu,rg,el,fl⟩:Ty)=⟨k2,mu2,rg2,el2,fl2⟩)=R:=⟨_,rfl⟩;rw [hR]
 have HR:Hid (R=(decide (k=k2) && decide (mu=mu2) && decide (rg=rg2) && decide (el=el2) && decide (fl=fl2))):=aF (by
  rw [<- hR,bR]
  simp [and_assoc])
 clear hR;have HB0:=aF (bel2 w);by_cases h1:k=k2
 case neg=>
  have HF:Hid (R=false):=aF (by rw [HR.out];simp [h1]);have e1:(k != k2)=true:=by simp [h1]
  clear HR h1;go_enter Tryz.func59,Tryz.ntmps59
  go_wp2_with fail
  go_ret;exact ⟨by rw [HF.out];rfl,HB0.out _ _⟩
 subst h1;by_cases h2:mu=mu2
 case neg=>
  have HF:Hid (R=false):=aF (by rw [HR.out];simp [h2]);have hmm:(mu=true/\mu2=false)\/(mu=false/\mu2=true):=by revert h2;cases mu <;> cases mu2 <;> simp
  clear HR h2;rcases hmm with ⟨rfl,rfl⟩ | ⟨rfl,rfl⟩
  all_goals
   go_enter Tryz.func59,Tryz.ntmps59
   go_wp2_with fail
   go_ret;exact ⟨by rw [HF.out];rfl,HB0.out _ _⟩
 subst h2;by_cases h3:rg=rg2
 case neg=>
  have HF:Hid (R=false):=aF (by rw [HR.out];simp [h3]);have e1:(rg != rg2)=true:=by simp [h3]
  clear HR h3;go_enter Tryz.func59,Tryz.ntmps59
  go_wp2_with fail
  go_ret;exact ⟨by rw [HF.out];rfl,HB0.out _ _⟩
 subst h3;by_cases h4:el=el2
 case neg=>
  have HF:Hid (R=false):=aF (by rw [HR.out];simp [h4]);have e1:(el != el2)=true:=by simp [h4]
  clear HR h4;go_enter Tryz.func59,Tryz.ntmps59
  go_wp2_with fail
  go_ret;exact ⟨by rw [HF.out];rfl,HB0.out _ _⟩
 subst h4;obtain ⟨n,hn⟩:∃n,fl.length=n:=⟨_,rfl⟩;obtain ⟨n2,hn2⟩:∃n,fl2.length=n:=⟨_,rfl⟩;have HN:=aF hn;have HN2:=aF hn2;rw [hn] at hle ⊢;rw [hn2] at hle2 ⊢;by_cases h5:n=n2
 case neg=>
  have HF:Hid (R=false):=aF (by rw [HR.out];have:fl≠fl2:=fun h=>h5 (by rw [<- hn,<- hn2,h]);simp [this]);have e1:((n:Int) != (n2:Int))=true:=by simp;omega
  clear HR h5 hn hn2;go_enter Tryz.func59,Tryz.ntmps59
  go_wp2_with fail
  go_ret;exact ⟨by rw [HF.out];rfl,HB0.out _ _⟩
 subst h5;have HQ:Hid (R=decide (fl.drop 0=fl2.drop 0)):=aF (by rw [HR.out];simp);have hcc:=cT (w:=w) (l1:=[Value.int .i64 k,.bool mu,.int .i64 rg,.int .i64 el,.slice A n c]) (l2:=[Value.int .i64 k,.bool mu,.int .i64 rg,.int .i64 el,.slice B n d]) (t1:=81) (t2:=81) (aX _ _);have HCC:=aF hcc;have HBW:=aF (bel2 w (.cells #[.int .i64 k,.bool mu,.int .i64 rg,.int .i64 el,.slice A n c] 81) (.cells #[.int .i64 k,.bool mu,.int .i64 rg,.int .i64 el,.slice B n d] 81));clear HR hn hn2 hcc;go_enter Tryz.func59,Tryz.ntmps59
 go_wp2_with fail
 go_loopw [5] (fun v wr=>∃j:Nat,j<=n/\v = .int .i64 j/\Hid (aA [Value.int .i64 k,.bool mu,.int .i64 rg,.int .i64 el,.slice A n c] wr w.heap.size)/\Hid (aA [Value.int .i64 k,.bool mu,.int .i64 rg,.int .i64 el,.slice B n d] wr (w.heap.size+1))/\Hid (Below w.heap.size w wr)/\Hid (R=decide (fl.drop j=fl2.drop j))) (fun v _=>n - (intOf v).toNat)
 case atStart=>exact ⟨0,by omega,rfl,aF HCC.out.1,aF HCC.out.2,HBW,HQ⟩
 case round=>
  clear HCC HBW HQ;obtain ⟨j,hj,rfl,HX,HY,HBR,hr⟩:=hrel;have x4:=HX.out 4 _ rfl;have y4:=HY.out 4 _ rfl;by_cases hlt:j<n
  ·have hl1:j<fl.length:=by rw [HN.out];exact hlt
   have hl2:j<fl2.length:=by rw [HN2.out];exact hlt
   obtain ⟨ba,oa,rfl,hba,hxa⟩:=HA.out.sl.at_ hl1;obtain ⟨b8,o8,rfl,hb8,hxb⟩:=HB.out.sl.at_ hl2
   have HV:Hid (R=(decide (fl[j]=fl2[j]) && decide (fl.drop (j+1)=fl2.drop (j+1)))):=aF (by
    rw [hr.out,cS hl1,cS hl2,bR]
    simp only [List.cons.injEq,decide_eq_true_eq,bQ])
   obtain ⟨x,hxx⟩:∃x,fl[j]=x:=⟨_,rfl⟩;obtain ⟨y,hyy⟩:∃y,fl2[j]=y:=⟨_,rfl⟩;rw [hxx] at hxa HV;rw [hyy] at hxb HV;have xa:wr.cell? ⟨ba,oa+j,none⟩=some (.int .i64 x):=cJ HBR.out (by simpa [RInt] using hxa);have xb:wr.cell? ⟨b8,o8+j,none⟩=some (.int .i64 y):=cJ HBR.out (by simpa [RInt] using hxb);clear hxa hxb hxx hyy hr hl1 hl2;by_cases hxy:x=y
   ·have e1:(x != y)=false:=by simp [hxy]
    have HF:Hid (R=decide (fl.drop (j+1)=fl2.drop (j+1))):=aF (by rw [HV.out];simp [hxy]);clear HV hxy;go_wp2_with fail
    go_quiet (fail)
    all_goals go_wp2_with fail
    go_roundw
    case rel=>exact ⟨j+1,by omega,by go_num,aF (fun i v hi=>HX.out i v hi),aF (fun i v hi=>HY.out i v hi),aF (aG HBR.out _),HF⟩
    case measure=>simp [intOf];omega
   ·have e1:(x != y)=true:=by simp [hxy]
    have HF:Hid (R=false):=aF (by rw [HV.out];simp [hxy]);clear HV hxy;go_wp2_with fail
    go_quiet (fail)
    all_goals go_wp2_with fail
    go_ret;exact ⟨by rw [HF.out];rfl,aG HBR.out _⟩
  ·have HF:Hid (R=true):=aF (by
    rw [hr.out,bE (by rw [HN.out];omega),bE (by rw [HN2.out];omega)]
    simp)
   clear hr;go_wp2_with fail
   go_ret;exact ⟨by rw [HF.out];rfl,HBR.out⟩
theorem xFX (ts:List Ty) (t:Ty) (A B:Option Addr) (c d:Nat) (w:World) (hs:Slc 5 RTy w A c ts) (ht:Slc 1 RInt w B d t.flds):
 Calls Tryz.prog 107 #[.slice A ts.length c,tyAgg t B d] w fun e' w'=>e' = .returned (.int .i64 (idxF (eqT t) 0 ts))/\Below w.heap.size w w':=by
 have hle:=hs.le;have hbig:=hs.big;obtain ⟨R,hR⟩:∃R,idxF (eqT t) 0 ts=R:=⟨_,rfl⟩;rw [hR];have HR:=aF hR;have HS:=aF hs;have HT:=aF ht;have HEQ:=aF (fun (W:World) (hb:Below w.heap.size w W) (x:Ty) (A2:Option Addr) (c2:Nat) (hx:Slc 1 RInt w A2 c2 x.flds)=>xGX x t A2 B c2 d W (hx.keep RInt.keeps hb) (ht.keep RInt.keeps hb));have HX0:=aF (cP w [Value.int .i64 t.kind,.bool t.mu,.int .i64 t.reg,.int .i64 t.elem,.slice B t.flds.length d] 81);clear hR hs ht;unfold tyAgg at *;go_enter Tryz.func107,Tryz.ntmps107
 go_wp2_with fail
 go_loopw [5] (fun v wr=>∃k:Nat,k<=ts.length/\v = .int .i64 k/\Hid (aA [Value.int .i64 t.kind,.bool t.mu,.int .i64 t.reg,.int .i64 t.elem,.slice B t.flds.length d] wr w.heap.size)/\Hid (Below w.heap.size w wr)/\Hid (R=idxF (eqT t) k (ts.drop k))) (fun v _=>ts.length - (intOf v).toNat)
 case atStart=>exact ⟨0,by omega,rfl,HX0,aF ((aX _ _).alloc (aY _) _),aF HR.out.symm⟩
 case round=>
  clear HX0;obtain ⟨k,hk,rfl,HX,HB,hr⟩:=hrel;by_cases hlt:k<ts.length
  ·have hd:=cS hlt;obtain ⟨b,o,rfl,hb,hx⟩:=HS.out.sl.at_ hlt;obtain ⟨x,hxx⟩:∃x,ts[k]=x:=⟨_,rfl⟩;rw [hxx] at hd hx;obtain ⟨r0,r1,r2,r3,A2,c2,r4,r6,r7,r8⟩:=hx;have HN:Hid (R=if eqT t x=true then (k:Int) else idxF (eqT t) (k+1) (ts.drop (k+1))):=aF (by rw [hr.out,hd];rfl);have HC:=aF (fun W hb=>HEQ.out W hb x A2 c2 ⟨r8,r6,r7⟩);change Hid (∀W,Below w.heap.size w W->Calls Tryz.prog 59 _ W fun e' w'=>e' = .returned (.bool (eqT t x))/\Below W.heap.size W w') at HC;have P0:=aF r0;have P1:=aF r1;have P2:=aF r2;have P3:=aF r3;have P4:=aF r4;generalize eqT t x=q at HC HN;clear hd hr hxx r8 r0 r1 r2 r3 r4;go_wp2_with fail
   have hS:(aA [Value.int .i64 t.kind,.bool t.mu,.int .i64 t.reg,.int .i64 t.elem,.slice B t.flds.length d] wr.drew w.heap.size)/\Below w.heap.size w wr.drew:=⟨HX.out,HB.out.drew⟩;refine cQ (S:=fun X=>(aA [Value.int .i64 t.kind,.bool t.mu,.int .i64 t.reg,.int .i64 t.elem,.slice B t.flds.length d] X w.heap.size)/\Below w.heap.size w X) [0,1,2,3,4,5] (by kernel_rfl) ?_;(iterate 5 (refine cR (v:=?_) ?_ hS ?_;rotate_left;(next=>(rintro X ⟨hX,hZ⟩;obtain ⟨s0,s1,s2,s3,s4⟩:=aQ hX;have p0:=cJ hZ P0.out;have p1:=cJ hZ P1.out;have p2:=cJ hZ P2.out;have p3:=cJ hZ P3.out;have p4:=cJ hZ P4.out;(try simp only [aI]);go_simp;rfl));simp only [aM]));(refine cM (fun K1 hK1=>?_);simp only [aM];rw [bA (by rfl)];go_simp);refine (HC.out _ hS.2).mono ?_;rintro e' w2 ⟨rfl,hb2⟩;replace hS:=bJ (cK hS.1 hb2) (hS.2.trans (hb2.mono hS.2.size));have HS2:=aF hS;clear hb2;refine hK1.out _ _ (fun _=>hS) ?_;clear hK1 hS;refine cV ?_;cases q
   ·have HF:Hid (R=idxF (eqT t) (k+1) (ts.drop (k+1))):=HN;go_wp2_with fail
    go_roundw
    case rel=>exact ⟨k+1,by omega,by go_num,aF HS2.out.1,aF HS2.out.2,HF⟩
    case measure=>simp [intOf];omega
   ·have HF:Hid (R=k):=HN;go_wp2_with fail
    go_ret;exact ⟨by rw [HF.out];rfl,HS2.out.2⟩
  ·have HN:Hid (R = -1):=aF (by rw [hr.out,bE (by omega)];rfl);clear hr;go_wp2_with fail
   go_ret;exact ⟨by rw [HN.out];rfl,HB.out⟩
theorem xBJ (w:World) (l m k:List Value) (t1 t2 t3:TypeId):(∀i v,l[i]?=some v->(((w.alloc (.cells l.toArray t1)).alloc (.cells m.toArray t2)).alloc (.cells k.toArray t3)).drew.cell? ⟨w.heap.size,i,none⟩=some v)/\(∀i v,m[i]?=some v->(((w.alloc (.cells l.toArray t1)).alloc (.cells m.toArray t2)).alloc (.cells k.toArray t3)).drew.cell? ⟨w.heap.size+1,i,none⟩=some v)/\(∀i v,k[i]?=some v->(((w.alloc (.cells l.toArray t1)).alloc (.cells m.toArray t2)).alloc (.cells k.toArray t3)).drew.cell? ⟨w.heap.size+1+1,i,none⟩=some v)/\Below w.heap.size w (((w.alloc (.cells l.toArray t1)).alloc (.cells m.toArray t2)).alloc (.cells k.toArray t3)).drew:=
 ⟨(dY (aX _ _)).1,(dY (aX _ _)).2.1,(dY (aX _ _)).2.2,Below.drew (bel3 _ _ _ _)⟩
theorem xGM (ts:List Ty) (A:Option Addr) (c:Nat) (w:World) (hs:Slc 5 RTy w A c ts) (hl:ts.length<=200):
 Calls Tryz.prog 66 #[.slice A ts.length c] w fun e' w'=>(∃q:Bool,e' = .returned (.bool q))/\Below w.heap.size w w':=by
 obtain ⟨i0,hi,hz0,hz1,hz2⟩:=info_parts eF;have hle:=hs.le;have hbg:=hs.big;have HS:=aF hs;clear hs;go_enter Tryz.func66,Tryz.ntmps66
 go_wp2_with fail
 go_loopw [3,11] (fun v i wr=>∃(k:Nat) (xs:List Int),k<=ts.length/\i = .int .i64 k/\xs.length=k/\Hid (wr.ownsRow w.heap.size 3 1 v k (xs.map (Value.int .i64)))/\Hid (Below w.heap.size w wr)) (fun _ i _=>ts.length - (intOf i).toNat)
 case atStart=>exact ⟨0,[],by omega,rfl,rfl,aF (World.ownsRow_nil _ _ _ _),aF (aX _ _)⟩
 case round=>
  obtain ⟨k,xs,hk,rfl,hxl,HO,HB⟩:=hrel;obtain ⟨A',c',hv⟩:=mX HO.out;subst hv;have hsz:=HB.out.size;by_cases hlt:k<ts.length
  next=>
   obtain ⟨b1,o1,rfl,hb1,r1⟩:=HS.out.sl.at_ hlt;obtain ⟨r1,r2,r3,r4,A2,c2,r5,r6,r7,r8⟩:=RTy.keeps _ _ _ w.heap.size _ _ _ (aY _) hb1 HB.out r1;generalize ts[k]=x at *;have HF:Hid (Sl 1 RInt wr w.heap.size A2 x.flds):=aF r8;obtain ⟨B',d',hB',hsl,-⟩:=xG (R:=RInt) (fun w B b o x h=>h) HO.out hxl;simp only [Value.slice.injEq,true_and] at hB';obtain ⟨rfl,rfl⟩:=hB';have HX:=aF hsl;have hls:=cY hb1;clear r8 hsl
   have HFK:Hid (∀X,Below w.heap.size w X->∀b7 o7 j (f:Int),b7<w.heap.size->RInt wr w.heap.size b7 (o7+j * 1) f->X.cell? ⟨b7,o7+j,none⟩=some (.int .i64 f)):=aF (fun X hX b7 o7 j f hb7 h=>by
    rw [Nat.mul_one] at h;have h1:w.cell? ⟨b7,o7+j,none⟩=some (.int .i64 f):=(HB.out.cell (p:=⟨b7,o7+j,none⟩) hb7).symm.trans h
    exact cJ hX h1)
   obtain ⟨kd,mu,rg,el,fl⟩:=x;simp only at r1 r2 r3 r4 r5 r6 r7 HF;by_cases hg:kd=3/\0<=el/\el<k
   next=>
    obtain ⟨rfl,h0,h1⟩:=hg;obtain ⟨e,rfl⟩:=bG h0;obtain ⟨b8,o8,rfl,hb8,hxe⟩:=HX.out.sl.at_ (show e<xs.length by omega);have x1:wr.cell? ⟨b8,o8+e,none⟩=some (.int .i64 xs[e]):=(by simpa [RInt] using hxe);generalize xs[e]=y at x1;clear hxe;have hls8:=cY hb8;go_wp2_with fail
    clear r1 r2 r3 r4 r5;clear HX;all_goals try (exfalso;omega)
    all_goals
     have HO2:=aF (fun o=>HO.out.alloc o);have HB2:=aF (fun o=>HB.out.alloc hsz o);go_loopw [6,40] (fun n u wr2=>∃(j:Nat) (m:Int),j<=fl.length/\u = .int .i64 j/\n = .int .i64 m/\Hid (wr2.ownsRow w.heap.size 3 1 (.slice (some ⟨b8,o8,none⟩) k c') k (xs.map (Value.int .i64)))/\Hid (Below w.heap.size w wr2)) (fun _ u _=>fl.length - (intOf u).toNat)
     case atStart=>exact ⟨0,_,by omega,rfl,rfl,aF (HO2.out _),aF (HB2.out _)⟩
     case round=>
      clear HO2 HB2 HO HB;obtain ⟨j,m,hj,rfl,rfl,HO,HB⟩:=hrel;have hsz:=HB.out.size;by_cases hjl:j<fl.length
      ·obtain ⟨b7,o7,rfl,hb7,hxj⟩:=HF.out.at_ hjl;obtain ⟨f,hf⟩:∃f,fl[j]=f:=⟨_,rfl⟩;rw [hf] at hxj;have x0:wr.cell? ⟨b7,o7+j,none⟩=some (.int .i64 f):=HFK.out wr HB.out b7 o7 j f hb7 hxj;clear hxj hf;by_cases hg:0<=f/\f<k
       ·obtain ⟨e,rfl⟩:=bG hg.1;obtain ⟨B',d',hB',hsl,-⟩:=xG (R:=RInt) (fun w B b o x h=>h) HO.out hxl;simp only [Value.slice.injEq,true_and] at hB';obtain ⟨hB1,hd1⟩:=hB';subst hd1;subst hB1;obtain ⟨b8,o8,hB9,hb8,hxe⟩:=hsl.sl.at_ (show e<xs.length by omega);cases hB9
        have x1:wr.cell? ⟨b8,o8+e,none⟩=some (.int .i64 xs[e]):=(by simpa [RInt] using hxe);generalize xs[e]=y at x1;clear hxe hsl;go_wp2_with fail
        all_goals first
         | (exfalso;omega)
         | (go_ret;exact ⟨by first | exact ⟨_,rfl⟩ | exact .inl rfl | exact .inr rfl,HB.out⟩)
         | (go_roundw
            case rel=>exact ⟨j+1,_,by omega,by go_num,rfl,HO,HB⟩
            case measure=>simp [intOf];omega)
       ·go_wp2_with fail
        all_goals first
         | (exfalso;omega)
         | (go_ret;exact ⟨by first | exact ⟨_,rfl⟩ | exact .inl rfl | exact .inr rfl,HB.out⟩)
         | (go_roundw
            case rel=>exact ⟨j+1,_,by omega,by go_num,rfl,HO,HB⟩
            case measure=>simp [intOf];omega)
      ·have hown2:=HO.out.alloc (.cells #[.int .i64 m] 3);go_wp2_with (at_builtin;refine wpList_append_own _ rfl _ _ 58 rfl w.heap.size 3 i0 (.int .i64 0) 1 8 Tryz.underlying58 hi hz0 hz1 hz2 rfl (by decide) _ _ _ rfl hown2 ⟨wr.heap.size,0,none⟩ 1 1 [.int .i64 m] rfl rfl (fun j u hj=>by rw [add0];exact rD _ [.int .i64 m] _ j u hj) (fun u hu=>by simp at hu;subst hu;rfl) (by unfold maxLen;omega) (by omega) (by simp;omega) ?_)
       intro v' w2 hown' hgrow _;have HO2:Hid (w2.ownsRow w.heap.size 3 1 v' (k+1) ((xs ++ [m]).map (Value.int .i64))):=aF (by rw [bU];exact hown');have HB2:Hid (Below w.heap.size w w2):=aF ((HB.out.alloc hsz _).grown hgrow (by simp;omega) (fun g hg=>(hown2.lt g hg).1));clear hown' hgrow hown2;go_wp2_with fail
       go_roundw
       case rel=>exact ⟨k+1,xs ++ [m],by omega,by go_num,by simp [hxl],HO2,HB2⟩
       case measure=>simp [intOf];omega
   next=>
   go_wp2_with fail
   clear r1 r2 r3 r4 r5;clear HX;all_goals try (exfalso;omega)
   all_goals
    have HO2:=aF (fun o=>HO.out.alloc o);have HB2:=aF (fun o=>HB.out.alloc hsz o);go_loopw [6,40] (fun n u wr2=>∃(j:Nat) (m:Int),j<=fl.length/\u = .int .i64 j/\n = .int .i64 m/\Hid (wr2.ownsRow w.heap.size 3 1 (.slice A' k c') k (xs.map (Value.int .i64)))/\Hid (Below w.heap.size w wr2)) (fun _ u _=>fl.length - (intOf u).toNat)
    case atStart=>exact ⟨0,_,by omega,rfl,rfl,aF (HO2.out _),aF (HB2.out _)⟩
    case round=>
     clear HO2 HB2 HO HB;obtain ⟨j,m,hj,rfl,rfl,HO,HB⟩:=hrel;have hsz:=HB.out.size;by_cases hjl:j<fl.length
     ·obtain ⟨b7,o7,rfl,hb7,hxj⟩:=HF.out.at_ hjl;obtain ⟨f,hf⟩:∃f,fl[j]=f:=⟨_,rfl⟩;rw [hf] at hxj;have x0:wr.cell? ⟨b7,o7+j,none⟩=some (.int .i64 f):=HFK.out wr HB.out b7 o7 j f hb7 hxj;clear hxj hf;by_cases hg:0<=f/\f<k
      ·obtain ⟨e,rfl⟩:=bG hg.1;obtain ⟨B',d',hB',hsl,-⟩:=xG (R:=RInt) (fun w B b o x h=>h) HO.out hxl;simp only [Value.slice.injEq,true_and] at hB';obtain ⟨hB1,hd1⟩:=hB';subst hd1;subst hB1;obtain ⟨b8,o8,hB9,hb8,hxe⟩:=hsl.sl.at_ (show e<xs.length by omega);cases hB9
       have x1:wr.cell? ⟨b8,o8+e,none⟩=some (.int .i64 xs[e]):=(by simpa [RInt] using hxe);generalize xs[e]=y at x1;clear hxe hsl;go_wp2_with fail
       all_goals first
        | (exfalso;omega)
        | (go_ret;exact ⟨by first | exact ⟨_,rfl⟩ | exact .inl rfl | exact .inr rfl,HB.out⟩)
        | (go_roundw
           case rel=>exact ⟨j+1,_,by omega,by go_num,rfl,HO,HB⟩
           case measure=>simp [intOf];omega)
      ·go_wp2_with fail
       all_goals first
        | (exfalso;omega)
        | (go_ret;exact ⟨by first | exact ⟨_,rfl⟩ | exact .inl rfl | exact .inr rfl,HB.out⟩)
        | (go_roundw
           case rel=>exact ⟨j+1,_,by omega,by go_num,rfl,HO,HB⟩
           case measure=>simp [intOf];omega)
     ·have hown2:=HO.out.alloc (.cells #[.int .i64 m] 3);go_wp2_with (at_builtin;refine wpList_append_own _ rfl _ _ 58 rfl w.heap.size 3 i0 (.int .i64 0) 1 8 Tryz.underlying58 hi hz0 hz1 hz2 rfl (by decide) _ _ _ rfl hown2 ⟨wr.heap.size,0,none⟩ 1 1 [.int .i64 m] rfl rfl (fun j u hj=>by rw [add0];exact rD _ [.int .i64 m] _ j u hj) (fun u hu=>by simp at hu;subst hu;rfl) (by unfold maxLen;omega) (by omega) (by simp;omega) ?_)
      intro v' w2 hown' hgrow _;have HO2:Hid (w2.ownsRow w.heap.size 3 1 v' (k+1) ((xs ++ [m]).map (Value.int .i64))):=aF (by rw [bU];exact hown');have HB2:Hid (Below w.heap.size w w2):=aF ((HB.out.alloc hsz _).grown hgrow (by simp;omega) (fun g hg=>(hown2.lt g hg).1));clear hown' hgrow hown2;go_wp2_with fail
      go_roundw
      case rel=>exact ⟨k+1,xs ++ [m],by omega,by go_num,by simp [hxl],HO2,HB2⟩
      case measure=>simp [intOf];omega
  next=>
   clear HO;go_wp2_with fail
   go_ret;exact ⟨by first | exact ⟨_,rfl⟩ | exact .inl rfl | exact .inr rfl,HB.out⟩
end
section
open Go Go.RowKit
theorem xCH (l:List (Int × Int)) (f s:Int) (A:Option Addr) (c:Nat) (w:World) (hs:Slc 2 RPr w A c l):
 Calls Tryz.prog 62 #[.slice A l.length c,.int .i64 f,.int .i64 s] w fun e' w'=>e' = .returned (.int .i64 (prsE f s none l))/\w'=w:=by
 have hle:=hs.le;have hbig:=hs.big;obtain ⟨R,hR⟩:∃R,prsE f s none l=R:=⟨_,rfl⟩;rw [hR];have HR:=aF hR;have HS:=aF hs.sl;clear hR hs;go_enter Tryz.func62,Tryz.ntmps62
 go_wp2_with fail
 go_loopw [6,7,8,9] (fun e v _ _ wr=>∃k:Nat,k<=l.length/\e = .int .i64 0/\v = .int .i64 k/\wr=w/\Hid (R=prsE f s (prevL l k) (l.drop k))) (fun _ v _ _ _=>l.length - (intOf v).toNat)
 case atStart=>exact ⟨0,by omega,rfl,rfl,rfl,aF HR.out.symm⟩
 case round=>
  obtain ⟨k,hk,rfl,rfl,rfl,hr⟩:=hrel;by_cases hlt:k<l.length
  case neg=>
   have HN:Hid (R=0):=aF (by rw [hr.out,bE (by omega)];rfl);clear hr;go_wp2_with fail
   go_ret;exact ⟨by rw [HN.out];rfl,rfl⟩
  case pos=>
  obtain ⟨b,o,rfl,hb,hx⟩:=HS.out.at_ hlt;have HP:Hid (prevL l (k+1)=some l[k]):=aF (by unfold prevL;rw [aZ (by omega)];simp [hlt])
  have HQ:Hid (∀j,k=j+1->∃q,prevL l k=some q/\RPr wr wr.heap.size b (o+j * 2) q):=aF (fun j hj=>by
   obtain ⟨b',o',hbo,_,hz⟩:=HS.out.at_ (show j<l.length by omega);obtain ⟨rfl,rfl⟩:b=b'/\o=o':=by simpa using hbo
   exact ⟨l[j],by unfold prevL;rw [aZ (by omega),show k - 1=j by omega];exact bD (by omega),hz⟩)
  have HN:Hid (R=if prE f s (prevL l k) l[k]=0 then prsE f s (some l[k]) (l.drop (k+1)) else prE f s (prevL l k) l[k]):=aF (by rw [hr.out,cS hlt,lI]);obtain ⟨x,hxe⟩:∃x,l[k]=x:=⟨_,rfl⟩;rw [hxe] at hx HP HN;obtain ⟨p1,p2⟩:=x;obtain ⟨x0,x1⟩:=hx;simp only at x0 x1;clear hr hxe;by_cases hrg:p1<0\/f<=p1\/p2<0\/s<=p2
  case pos=>
   have HF:Hid (R=3):=aF (by rw [HN.out,lJ hrg];rfl);clear HN HP HQ;go_wp2_with fail
   all_goals first
    | (exfalso;omega)
    | (go_ret;exact ⟨by rw [HF.out];rfl,rfl⟩)
  case neg=>
  have g1:¬p1<0:=by omega
  have g2:¬f<=p1:=by omega
  have g3:¬p2<0:=by omega
  have g4:¬s<=p2:=by omega
  rcases (show k=0\/∃j,k=j+1 from by cases k;exact .inl rfl;exact .inr ⟨_,rfl⟩) with rfl | ⟨j,rfl⟩
  ·have HF:Hid (R=prsE f s (prevL l 1) (l.drop 1)):=aF (by rw [HN.out,show prevL l 0=none from rfl,vA hrg,bA rfl,HP.out]);clear HN hrg HP HQ;simp only [Nat.zero_mul,Nat.add_zero] at x0 x1;go_wp2_with fail
   all_goals first
    | (exfalso;omega)
    | (go_roundw
       case rel=>exact ⟨1,by omega,rfl,by go_num,trivial,HF⟩
       case measure=>simp [intOf];omega)
  ·obtain ⟨⟨q1,q2⟩,hq,z0,z1⟩:=HQ.out j rfl;simp only at z0 z1
   have HF:Hid (R=if 0<=cmp2 (q1,q2) (p1,p2) then 21 else prsE f s (prevL l (j+1+1)) (l.drop (j+1+1))):=aF (by
    rw [HN.out,hq,uZ hrg,HP.out]
    split <;> simp)
   have HG:=aF (yR (p1,p2) (q1,q2));have hwk:IntKind.i64.wrap (j:Int)=(j:Int):=by rw [IntKind.wrap_i64];omega
   have hj1:(j:Int)<(l.length:Int):=by omega
   clear HN hrg HP HQ hq;rcases (show p1<q1\/(p1=q1/\p2<=q2)\/(p1=q1/\q2<p2)\/q1<p1 by omega) with hc | ⟨hc,hd⟩ | ⟨hc,hd⟩ | hc
   ·have HF':Hid (R=21):=aF (by rw [HF.out,bA (HG.out.2 (by simp only;omega))]);clear HF HG;go_wp2_with fail
    all_goals first
     | (exfalso;omega)
     | (go_ret;exact ⟨by rw [HF'.out];rfl,rfl⟩)
   ·have HF':Hid (R=21):=aF (by rw [HF.out,bA (HG.out.2 (by simp only;omega))]);clear HF HG;have e1:(p1 == q1)=true:=by simp [hc]
    have e2:¬p1<q1:=(by omega);clear hc;go_wp2_with fail
    all_goals first
     | (exfalso;omega)
     | (go_ret;exact ⟨by rw [HF'.out];rfl,rfl⟩)
   ·have HF':Hid (R=prsE f s (prevL l (j+1+1)) (l.drop (j+1+1))):=aF (by rw [HF.out,aZ (fun h=>by have:=HG.out.1 h;simp only at this;omega)]);clear HF HG;have e1:(p1 == q1)=true:=by simp [hc]
    have e2:¬p1<q1:=(by omega);have e3:¬p2<=q2:=(by omega);clear hc;go_wp2_with fail
    all_goals first
     | (exfalso;omega)
     | (go_roundw
        case rel=>exact ⟨j+1+1,by omega,rfl,by go_num,trivial,HF'⟩
        case measure=>simp [intOf];omega)
   ·have HF':Hid (R=prsE f s (prevL l (j+1+1)) (l.drop (j+1+1))):=aF (by rw [HF.out,aZ (fun h=>by have:=HG.out.1 h;simp only at this;omega)]);clear HF HG;have e1:(p1 == q1)=false:=by simp;omega
    have e2:¬p1<q1:=(by omega);go_wp2_with fail
    all_goals first
     | (exfalso;omega)
     | (go_roundw
        case rel=>exact ⟨j+1+1,by omega,rfl,by go_num,trivial,HF'⟩
        case measure=>simp [intOf];omega)
theorem xFR {α : Type} {xs ys:List α} {i:Nat} (h:xs.take i=ys.take i) (h1:i<xs.length) (h2:i<ys.length) (e:xs[i]=ys[i]):xs.take (i+1)=ys.take (i+1):=by
 rw [bF h1,bF h2,h,e]
theorem xEK {α : Type} {xs ys:List α} {n:Nat} (h:xs.take n=ys.take n) (h1:xs.length<=n) (h2:ys.length<=n):xs=ys:=by
 rwa [List.take_of_length_le h1,List.take_of_length_le h2] at h
theorem neqPr (a b c d:Int) (w:World):Sem.run Tryz.prog (binOp .neq 77 (.agg #[.int .i64 a,.int .i64 b]) (.agg #[.int .i64 c,.int .i64 d])) w = .ok (.bool (!(decide (a=c) && decide (b=d)))) w:=by
 have u3:=Tryz.underlying3;have a3:=Tryz.isAgg3;have z3:=Tryz.sizeOf3;obtain ⟨i0,hi,hz0,hz1,hz2⟩:=info_parts eF;rw [run_neq_struct,show (10000:Nat)=9999+1 from rfl,run_equalIn_array w 9999 _ _ Tryz.underlying77 hi];have hc:Tryz.prog.cellsOf 3=1:=by kernel_rfl
 rw [hc];by_cases h1:a=c <;> by_cases h2:b=d <;> simp [Op.eqItems,List.range_succ,go_sem,part,h1,h2]
theorem xBW (xs ys:List (Int × Int)) (A B:Option Addr) (c d:Nat) (w:World) (hs:Slc 2 RPr w A c xs) (ht:Slc 2 RPr w B d ys):
 Calls Tryz.prog 58 #[.slice A xs.length c,.slice B ys.length d] w fun e' w'=>e' = .returned (.bool (decide (xs=ys)))/\Below w.heap.size w w':=by
 have hle:=hs.le;have hbg:=hs.big;have hle2:=ht.le;have hbg2:=ht.big;have HS:=aF hs;have HT:=aF ht;clear hs ht;obtain ⟨R,hR⟩:∃R,decide (xs=ys)=R:=⟨_,rfl⟩;rw [hR];have HR:=aF hR;clear hR;by_cases hl:xs.length=ys.length
 case neg=>
  have HF:Hid (R=false):=aF (by rw [<- HR.out];simp only [decide_eq_false_iff_not];intro h;exact hl (by rw [h]));have e1:((xs.length:Int) == (ys.length:Int))=false:=by simp;omega
  clear HR;go_enter Tryz.func58,Tryz.ntmps58
  go_wp2_with fail
  go_ret;exact ⟨by rw [HF.out];rfl,aX _ _⟩
 have e1:((xs.length:Int) == (ys.length:Int))=true:=by simp;omega
 go_enter Tryz.func58,Tryz.ntmps58
 go_wp2_with fail
 go_loopw [5] (fun v wr=>∃i:Nat,i<=xs.length/\v = .int .i64 i/\Hid (xs.take i=ys.take i)/\Hid (Below w.heap.size w wr)) (fun v _=>xs.length - (intOf v).toNat)
 case atStart=>exact ⟨0,by omega,rfl,aF rfl,aF (aX _ _)⟩
 case round=>
  obtain ⟨i,hi,rfl,HE,HB⟩:=hrel;by_cases hlt:i<xs.length
  ·have hlt2:i<ys.length:=by omega
   obtain ⟨b,o,rfl,hb,y⟩:=(HS.out.keep RPr.keeps HB.out).sl.at_ hlt;obtain ⟨b2,o2,rfl,hb2,z⟩:=(HT.out.keep RPr.keeps HB.out).sl.at_ hlt2;by_cases hxy:xs[i]=ys[i]
   ·have HN:=aF (xFR HE.out hlt hlt2 hxy);rw [<- hxy] at z;generalize xs[i]=x at *;have p0:wr.cell? ⟨b,o+i * 2,none⟩=some (.int .i64 x.1):=y.1;have p1:wr.cell? ⟨b,o+i * 2+1,none⟩=some (.int .i64 x.2):=y.2;have q0:wr.cell? ⟨b2,o2+i * 2,none⟩=some (.int .i64 x.1):=z.1;have q1:wr.cell? ⟨b2,o2+i * 2+1,none⟩=some (.int .i64 x.2):=z.2;have hne:∀W:World,Sem.run Tryz.prog (binOp .neq 77 (.agg #[.int .i64 x.1,.int .i64 x.2]) (.agg #[.int .i64 x.1,.int .i64 x.2])) W = .ok (.bool false) W:=fun W=>by rw [neqPr];simp
    clear y z hxy HE;go_wp2_with fail
    go_quiet (fail)
    go_wp2_with fail
    go_roundw
    case rel=>exact ⟨i+1,by omega,by go_num,HN,aF (aG HB.out _)⟩
    case measure=>simp [intOf];omega
   ·have HF:Hid (R=false):=aF (by rw [<- HR.out];simp only [decide_eq_false_iff_not];intro h;subst h;exact hxy rfl);generalize xs[i]=x at *;generalize ys[i]=x2 at *;have p0:wr.cell? ⟨b,o+i * 2,none⟩=some (.int .i64 x.1):=y.1;have p1:wr.cell? ⟨b,o+i * 2+1,none⟩=some (.int .i64 x.2):=y.2;have q0:wr.cell? ⟨b2,o2+i * 2,none⟩=some (.int .i64 x2.1):=z.1;have q1:wr.cell? ⟨b2,o2+i * 2+1,none⟩=some (.int .i64 x2.2):=z.2
    have hne:∀W:World,Sem.run Tryz.prog (binOp .neq 77 (.agg #[.int .i64 x.1,.int .i64 x.2]) (.agg #[.int .i64 x2.1,.int .i64 x2.2])) W = .ok (.bool true) W:=fun W=>by
     rw [neqPr,show (decide (x.1=x2.1) && decide (x.2=x2.2))=false by simp only [Bool.and_eq_false_iff,decide_eq_false_iff_not];exact Classical.byContradiction (fun h=>by simp only [not_or,Classical.not_not] at h;exact hxy (Prod.ext h.1 h.2))];rfl
    clear y z HE HR;go_wp2_with fail
    go_quiet (fail)
    go_wp2_with fail
    go_ret;exact ⟨by rw [HF.out];rfl,by first | exact HB.out | exact aG HB.out _⟩
  ·have HF:Hid (R=true):=aF (by rw [<- HR.out];simp only [decide_eq_true_eq];exact xEK HE.out (by omega) (by omega));go_wp2_with fail
   go_ret;exact ⟨by rw [HF.out];rfl,HB.out⟩
end
section
open Go Go.RowKit Go.Shelf
theorem xDU:∀{d:List Int} {l:List Ty},(∀y∈d,0<=y)->∀y∈depsN d l,0<=y
 | _,[],h=>h
 | d,t :: r,h=>xDU (d:=d ++ [depK d t+1]) (l:=r) (fun y hy=>by
   rcases List.mem_append.1 hy with e | e
   ·exact h y e
   ·rw [bS] at e;have:=yO d t
    omega)
theorem xDV {d:List Int} {a K f:Int} {r:List Int} (h:depF d a (f :: r)=some K):∃g:Nat,f=g/\∃x,d[g]?=some x/\depF d (max a x) r=some K:=by
 unfold depF at h;split at h
 ·cases h
 ·next h0=>
  split at h
  ·cases h
  ·next x hx=>exact ⟨f.toNat,by omega,x,hx,h⟩
theorem xBV {α : Type} {l:List α} {m:Nat} (h:m<l.length):l.drop m=l[m] :: l.drop (m+1):=cH h
theorem xCS (ts:List Ty) (n:Nat) (A:Option Addr) (c:Nat) (w:World) (hs:Slc 5 RTy w A c ts) (hn:n<=ts.length) (h64:n<=100000) (hok:OkD ts n):
 Calls Tryz.prog 68 #[.slice A ts.length c,.int .i64 n] w fun e' w'=>(∃A' c',e' = .returned (.slice A' n c')/\Slc 1 RInt w' A' c' (depsN [] (ts.take n)))/\Below w.heap.size w w':=by
 have hle:=hs.le;have hbig:=hs.big;have HOK:=aF hok;have HS:=aF hs;clear hok hs;obtain ⟨i0,hi,hz0,hz1,hz2⟩:=info_parts eF;go_enter Tryz.func68,Tryz.ntmps68
 go_wp2
 go_loopw [5,6] (fun v u wr=>∃(i:Nat) (ds:List Int),i<=n/\u = .int .i64 i/\ds.length=i/\Hid (ds=depsN [] (ts.take i))/\wr.ownsRow w.heap.size 3 1 v ds.length (ds.map (Value.int .i64))/\Below w.heap.size w wr) (fun _ u _=>n - (intOf u).toNat)
 case atStart=>exact ⟨0,[],by omega,rfl,rfl,aF rfl,World.ownsRow_nil _ _ _ _,aX _ _⟩
 case round=>
  obtain ⟨i,ds,hin,rfl,hds,hde,hown,hB⟩:=hrel;by_cases hlt:i<n
  ·have hil:i<ts.length:=by omega
   obtain ⟨b1,o1,rfl,hb1,r0⟩:=HS.out.sl.at_ hil;obtain ⟨r1,r2,r3,r4,A2,c2,r5,r6,r7,r8⟩:=RTy.keeps _ _ _ w.heap.size _ _ _ (aY _) hb1 hB r0;obtain ⟨K,hK,hK1,hK3⟩:=HOK.out i hil hlt;have HPOS:=aF (fun y hy=>xDU (d:=[]) (l:=ts.take i) (by simp) y hy)
   have HNX:Hid (depsN [] (ts.take (i+1))=ds ++ [K+1]):=aF (by
    rw [bF hil,jC,<- hde.out];unfold depK;rw [hde.out];unfold refsD at hK;rw [hK]
    rfl)
   rw [<- hde.out] at hK HPOS;have hK0:0<=K:=tC hK;have HK:=aF hK;have HK3:=aF hK3;obtain ⟨A3,c3,rfl,hsl⟩:=dE hown;have hdle:=hsl.le;have hdbig:=hsl.big;have HO:=aF hown;have HL:=aF hds;rw [hds] at hdle ⊢;generalize ts[i]=x at *;clear r0 hde hK hK3
   have hcell:Hid (∀(f:Nat) y,ds[f]?=some y->∃b4 o4,A3=some ⟨b4,o4,none⟩/\wr.cell? ⟨b4,o4+f,none⟩=some (.int .i64 y)):=aF (fun f y hf=>by
    have hfl:=(List.getElem?_eq_some_iff.1 hf).1;obtain ⟨b4,o4,hA4,hb4,hr4⟩:=hsl.sl (by omega);have:=hr4 f _ hf;unfold RInt at this;rw [Nat.mul_one] at this
    exact ⟨b4,o4,hA4,this⟩)
   have hfl:Hid (∀j (h:j<x.flds.length),∃(b3 o3:Nat),A2=some ⟨b3,o3,none⟩/\wr.cell? ⟨b3,o3+j,none⟩=some (.int .i64 x.flds[j])):=aF (fun j h=>by
    obtain ⟨b3,o3,hA3,hb3,hr3⟩:=r8.at_ h;unfold RInt at hr3;rw [Nat.mul_one] at hr3
    exact ⟨b3,o3,hA3,hr3⟩)
   clear r8 hsl hown hds;by_cases hkd:x.kind=3
   ·have hk2:(x.kind == 3)=true:=by simp [hkd]
    have HFN:Hid (x.flds=[]):=aF (HK3.out hkd);have h1:=HK.out;unfold refsD at h1;rw [bA hkd] at h1;obtain ⟨f,he,y,hy,h2⟩:=xDV h1;injection h2 with h2
    have hyp:=HPOS.out y (List.mem_of_getElem? hy);have hyK:y=K:=(by omega);subst hyK;have hfi:f<i:=by have:=(List.getElem?_eq_some_iff.1 hy).1;have:=HL.out;omega
    obtain ⟨b4,o4,rfl,hyc⟩:=hcell.out f y hy;rw [he] at r4;clear hkd h1 hy he h2;go_wp2
    go_loopw [7,8] (fun a j wr'=>wr'=wr/\a = .int .i64 y/\j = .int .i64 0) (fun _ j _=>x.flds.length - (intOf j).toNat)
    case atStart=>exact ⟨rfl,rfl,rfl⟩
    case round=>
     obtain ⟨rfl,rfl,rfl⟩:=hrel;have hown1:=HO.out;rw [HL.out] at hown1;have hown2:=hown1.alloc (.cells #[.int .i64 (y+1)] 3);have hsz:=hB.size;have hl0:x.flds.length=0:=by rw [HFN.out];rfl
     rw [hl0] at r5;clear hfl hcell;have e64:wrap64 (y+1)=y+1:=by unfold wrap64;omega
     go_wp2_with (at_builtin;refine wpList_append_own _ rfl _ _ 58 rfl w.heap.size 3 i0 (.int .i64 0) 1 8 Tryz.underlying58 hi hz0 hz1 hz2 rfl (by decide) _ _ _ rfl hown2 ⟨wr.heap.size,0,none⟩ 1 1 [.int .i64 (y+1)] rfl rfl ?c1 ?c2 ?c3 ?c4 ?c5 ?_)
     case c1=>
      intro j u hj;match j,hj with
      | 0,hj=>
        simp at hj;subst hj;rw [add0];go_simp
     case c2=>intro u hu;simp at hu;subst hu;rfl
     case c3=>unfold maxLen;omega
     case c4=>omega
     case c5=>simp;omega
     intro v' w3 hown' hgrow _;have hB3:Below w.heap.size w w3:=(hB.alloc hsz _).grown hgrow (by simp;omega) (fun g hg=>(hown2.lt g hg).1)
     have hown3:Hid (w3.ownsRow w.heap.size 3 1 v' (ds ++ [y+1]).length ((ds ++ [y+1]).map (Value.int .i64))):=aF (by
      rw [bB,cG,HL.out,bU]
      exact hown')
     clear hown' hgrow hown2 hown1 hB r1 r2 r3 r4 r5;go_wp2
     go_roundw
     case rel=>exact ⟨i+1,ds ++ [y+1],by omega,by go_num,by rw [bB,HL.out];rfl,aF HNX.out.symm,hown3.out,hB3⟩
     case measure=>simp [intOf];omega
   ·have hk2:(x.kind == 3)=false:=by simp [hkd]
    have HF0:=HK.out;unfold refsD at HF0;rw [aZ hkd] at HF0;have HF:=aF HF0;clear hkd HF0;go_wp2
    go_loopw [7,8] (fun a j wr'=>wr'=wr/\∃(y:Int) (m:Nat),m<=x.flds.length/\a = .int .i64 y/\j = .int .i64 m/\Hid (depF ds y (x.flds.drop m)=some K)) (fun _ j _=>x.flds.length - (intOf j).toNat)
    case atStart=>exact ⟨rfl,_,0,by omega,rfl,rfl,aF HF.out⟩
    case round=>
     obtain ⟨rfl,y,m,hm,rfl,rfl,HY⟩:=hrel;by_cases hlt3:m<x.flds.length
     ·obtain ⟨b3,o3,rfl,hc3⟩:=hfl.out m hlt3;have h1:=HY.out;rw [xBV hlt3] at h1;obtain ⟨f,he,y2,hy2,h2⟩:=xDV h1;have hfi:f<i:=by have:=(List.getElem?_eq_some_iff.1 hy2).1;have:=HL.out;omega
      obtain ⟨b4,o4,rfl,hyc⟩:=hcell.out f y2 hy2;rw [he] at hc3;have HY2:=aF h2;clear hfl hcell h1 he hy2 h2;go_wp2
      all_goals
       go_roundw
       case rel=>exact ⟨trivial,_,m+1,by omega,rfl,by go_num,aF (by have:=HY2.out;first | exact this | (rw [Int.max_def] at this;split at this <;> first | exact this | omega))⟩
       case measure=>simp [intOf];omega
     ·have hme:m=x.flds.length:=(by omega);subst hme
      have hyK:y=K:=by
       have:=HY.out;rw [List.drop_length] at this;injection this
      subst hyK;have hown1:=HO.out;rw [HL.out] at hown1;have hown2:=hown1.alloc (.cells #[.int .i64 (y+1)] 3);have hsz:=hB.size;clear hfl hcell;have e64:wrap64 (y+1)=y+1:=by unfold wrap64;omega
      go_wp2_with (at_builtin;refine wpList_append_own _ rfl _ _ 58 rfl w.heap.size 3 i0 (.int .i64 0) 1 8 Tryz.underlying58 hi hz0 hz1 hz2 rfl (by decide) _ _ _ rfl hown2 ⟨wr.heap.size,0,none⟩ 1 1 [.int .i64 (y+1)] rfl rfl ?c1 ?c2 ?c3 ?c4 ?c5 ?_)
      case c1=>
       intro j u hj;match j,hj with
       | 0,hj=>
         simp at hj;subst hj;rw [add0];go_simp
      case c2=>intro u hu;simp at hu;subst hu;rfl
      case c3=>unfold maxLen;omega
      case c4=>omega
      case c5=>simp;omega
      intro v' w3 hown' hgrow _;have hB3:Below w.heap.size w w3:=(hB.alloc hsz _).grown hgrow (by simp;omega) (fun g hg=>(hown2.lt g hg).1)
      have hown3:Hid (w3.ownsRow w.heap.size 3 1 v' (ds ++ [y+1]).length ((ds ++ [y+1]).map (Value.int .i64))):=aF (by
       rw [bB,cG,HL.out,bU]
       exact hown')
      clear hown' hgrow hown2 hown1 hB r1 r2 r3 r4 r5;go_wp2
      go_roundw
      case rel=>exact ⟨i+1,ds ++ [y+1],by omega,by go_num,by rw [bB,HL.out];rfl,aF HNX.out.symm,hown3.out,hB3⟩
      case measure=>simp [intOf];omega
  ·have hie:i=n:=by omega
   subst hie;rw [hds] at hown;obtain ⟨A2,c2,rfl,hsl⟩:=dE (ys:=ds) (by rw [hds];exact hown);have HL:=aF hds;rw [hds];have HD:=aF hsl;clear hown hsl hds;go_wp2
   go_ret;exact ⟨⟨A2,c2,rfl,by rw [<- hde.out];exact HD.out⟩,hB⟩
theorem xCY {prev:List Ty} {d:List Int} {t:Ty} {a f y:Int} {n:Nat} {r:List Int} (hf:f=n) (hy:d[n]?=some y):restE prev d t a (f :: r)=restE prev d t (max a y) r:=by
 subst hf;unfold restE;rw [depF,aZ (by omega)];simp only [bW,hy]
theorem xDQ {prev:List Ty} {d:List Int} {t:Ty} {a f:Int} {r:List Int} (hf:¬(0<=f/\f<d.length)):restE prev d t a (f :: r)=3:=by
 unfold restE;rw [depF];by_cases h:f<0
 ·rw [bA h]
 ·rw [aZ h,cE (by omega)]
theorem xHZ {ts:List Ty} {t:Ty}:0<=idxF (eqT t) 0 ts↔t∈ts:=by
 have h:=gR (eqT t) ts 0;rw [<- decide_eq_true_iff (p:=0<=idxF (eqT t) 0 ts),h];simp only [List.any_eq_true,eqT,decide_eq_true_eq];exact ⟨fun ⟨x,h1,h2⟩=>h2 ▸ h1,fun h=>⟨t,h,rfl⟩⟩
theorem xEI (ts:List Ty) (ds:List Int) (i:Nat) (n:Int) (A B:Option Addr) (c d:Nat) (w:World) (hs:Slc 5 RTy w A c ts) (hd:Slc 1 RInt w B d ds) (hi:i<ts.length) (hdi:ds.length=i) (hpos:∀y∈ds,0<=y/\y<=1000):
 Calls Tryz.prog 67 #[.slice A ts.length c,.slice B i d,.int .i64 i,.int .i64 n] w fun e' w'=>e' = .returned (.int .i64 (tyE (ts.take i) ds n ts[i]).1)/\Below w.heap.size w w':=by
 have hle:=hs.le;have hbig:=hs.big;have hdle:=hd.le;rw [hdi] at hdle;have hdbig:=hd.big;have hti:(ts.take i).length=i:=by simp;omega
 have HF:=aF (fun (t:Ty) (B':Option Addr) (d':Nat) (W:World) (hW:Below w.heap.size w W) (ht:Slc 1 RInt W B' d' t.flds)=>xFX (ts.take i) t A B' c d' W ((hs.takeN i).keep RTy.keeps hW) ht);rw [hti] at HF;unfold tyAgg at HF;obtain ⟨b1,o1,rfl,hb1,r0⟩:=hs.sl.at_ hi
 obtain ⟨b4,o4,hA3,hcell0⟩:∃b4 o4,(0<i->B=some ⟨b4,o4,none⟩/\b4<w.heap.size)/\∀f y,ds[f]?=some y->w.cell? ⟨b4,o4+f,none⟩=some (.int .i64 y):=by
  by_cases h0:0<i
  ·obtain ⟨b4,o4,hA4,hb4,hr4⟩:=hd.sl (by omega);refine ⟨b4,o4,fun _=>⟨hA4,hb4⟩,fun f y hf=>?_⟩;have:=hr4 f _ hf;unfold RInt at this;rw [Nat.mul_one] at this;exact this
  ·exact ⟨0,0,fun h=>absurd h h0,fun f y hf=>by have:=(List.getElem?_eq_some_iff.1 hf).1;omega⟩
 have HA3:=aF hA3;have HC:=aF hcell0;have HP:=aF hpos;have HDI:=aF hdi;generalize ts[i]=t at *;obtain ⟨pv,hpv⟩:∃pv,ts.take i=pv:=⟨_,rfl⟩;rw [hpv] at HF ⊢;obtain ⟨R,hR⟩:∃R,(tyE pv ds n t).1=R:=⟨_,rfl⟩;rw [hR];obtain ⟨r1,r2,r3,r4,A2,c2,r5,r6,r7,r8⟩:=r0;have H8:=aF r8;clear r8 hA3 hcell0 hd hs hti hdi hpos hpv;by_cases hk0:t.kind<0
 ·have HR14:Hid (R=14):=aF (by rw [<- hR];unfold tyE;rw [bA (Or.inl hk0)]);clear hR;go_enter Tryz.func67,Tryz.ntmps67
  go_wp2
  (go_ret;exact ⟨by rw [HR14.out];rfl,aH⟩)
 by_cases hk4:4<t.kind
 ·have HR14:Hid (R=14):=aF (by rw [<- hR];unfold tyE;rw [bA (Or.inr hk4)]);clear hR;have hk1:0<=t.kind:=by omega
  go_enter Tryz.func67,Tryz.ntmps67
  go_wp2
  (go_ret;exact ⟨by rw [HR14.out];rfl,aH⟩)
 have hk1:0<=t.kind:=by omega
 have hk5:t.kind<=4:=by omega
 have HR:=aF ((tX (prev:=pv) (d:=ds) (n:=n) (t:=t) (by omega)).symm.trans hR);clear hk0 hk4 hR;go_enter Tryz.func67,Tryz.ntmps67
 go_upto_region 1 with fail
 go_cut [9] (fun s9 wx=>s9 = .pointer (some ⟨w.heap.size,0,none⟩)/\(wx.cell? ⟨w.heap.size,0,none⟩=some (.int .i64 t.kind)/\wx.cell? ⟨w.heap.size,1,none⟩=some (.bool t.mu)/\wx.cell? ⟨w.heap.size,2,none⟩=some (.int .i64 t.reg)/\wx.cell? ⟨w.heap.size,3,none⟩=some (.int .i64 t.elem)/\wx.cell? ⟨w.heap.size,4,none⟩=some (.slice A2 t.flds.length c2))/\Below w.heap.size w wx)
 case first=>
  go_wp2_with fail
  go_meet;exact ⟨rfl,⟨by go_simp,by go_simp,by go_simp,by go_simp,by go_simp⟩,aH⟩
 case rest=>
 obtain ⟨rfl,⟨z0,z1,z2,z3,z4⟩,hb⟩:=hcut;obtain ⟨wr,rfl⟩:∃wr:World,wr=wc:=⟨_,rfl⟩;have HB:=aF hb;clear hb r1 r2 r3 r4 r5;go_upto_region 4 with fail
 go_cut [51] (fun s51 wx=>∃b,s51 = .bool b/\Hid (b=true↔((t.kind≠3/\(t.mu=true\/t.reg≠0\/t.elem≠0))\/(t.kind≠4/\0<t.flds.length)))/\wr=wx)
 case first=>
  clear HF HC HA3 H8 HR HP HDI HB;go_wp2_with fail
  all_goals (go_meet;exact ⟨_,rfl,aF (by grind),rfl⟩)
 case rest=>
 obtain ⟨b,rfl,hiff,rfl⟩:=hcut;cases b
 case true=>
  have HRB:Hid (R=2):=aF (by rw [<- HR.out,bA (hiff.out.1 rfl)]);clear HR hiff;go_wp2_with fail
  (go_ret;exact ⟨by rw [HRB.out];rfl,HB.out⟩)
 case false=>
 have hC2:¬((t.kind≠3/\(t.mu=true\/t.reg≠0\/t.elem≠0))\/(t.kind≠4/\0<t.flds.length)):=fun h=>absurd (hiff.out.2 h) (by decide)
 have HR2:Hid (R=if t.kind=3/\(t.reg<0\/n<=t.reg) then 3 else restE pv ds t 0 (refsD t)):=aF (by rw [<- HR.out,aZ hC2])
 have HK3:Hid (t.kind=3->t.flds=[]):=aF (fun h=>by
  rcases Nat.eq_zero_or_pos t.flds.length with h0 | h0
  ·exact List.length_eq_zero_iff.1 h0
  ·exact absurd (Or.inr ⟨by omega,h0⟩) hC2)
 clear hiff HR hC2;go_upto_if 54 with fail
 go_cut [10] (fun s10 wx=>∃y:Int,s10 = .int .i64 y/\0<=y/\y<=1000/\Hid (R=restE pv ds t y t.flds)/\wr=wx)
 case first=>
  by_cases hk:t.kind=3
  ·have hk2:(t.kind == 3)=true:=by simp [hk]
   have HR3:Hid (R=if t.reg<0\/n<=t.reg then 3 else restE pv ds t 0 (t.elem :: t.flds)):=aF (by
    rw [HR2.out];unfold refsD
    simp only [hk,true_and,if_true,HK3.out hk])
   clear HR2 HK3;by_cases he:0<=t.elem/\t.elem<i
   ·obtain ⟨f,hf⟩:=bG he.1;have hfi:f<i:=(by omega);have hdf:ds[f]?=some (ds[f]'(by have:=HDI.out;omega)):=bD _;obtain ⟨y,hy0⟩:∃y,ds[f]?=some y:=⟨_,hdf⟩;have hyp:=HP.out y (List.mem_of_getElem? hy0);have hyp1:=hyp.1;have hyp2:=hyp.2;have HR4:Hid (R=if t.reg<0\/n<=t.reg then 3 else restE pv ds t y t.flds):=aF (by rw [HR3.out,xCY hf hy0,show max 0 y=y by omega]);have hy:=HC.out f y hy0;obtain ⟨hA,hbb0⟩:=HA3.out (by omega);replace hy:=(HB.out.cell (p:=⟨b4,o4+f,none⟩) hbb0).trans hy;subst hA;rw [hf] at z3;clear hf he HF HC HA3 H8 HR3 hyp hy0 hdf HP HDI hk;go_wp2_with fail
    all_goals first
     | (go_ret;exact ⟨by rw [show R=3 by rw [HR4.out,bA (by omega)]];rfl,HB.out⟩)
     | (go_meet;exact ⟨_,rfl,by omega,by omega,aF (by rw [HR4.out,aZ (by omega)]),rfl⟩)
   ·have HRB:Hid (R=3):=aF (by
     rw [HR3.out,xDQ (by rw [HDI.out];omega)]
     simp)
    clear HF HC HA3 H8 HR3 HP HDI hk;go_wp2_with fail
    all_goals first
     | (go_ret;exact ⟨by rw [HRB.out];rfl,HB.out⟩)
     | (exfalso;omega)
  ·have hk2:(t.kind == 3)=false:=by simp [hk]
   have HR4:Hid (R=restE pv ds t 0 t.flds):=aF (by
    rw [HR2.out,aZ (fun h=>hk h.1)];unfold refsD
    rw [aZ hk])
   clear HF HC HA3 H8 HR2 HK3 HP HDI hk;go_wp2_with fail
   go_meet;exact ⟨0,rfl,by omega,by omega,HR4,rfl⟩
 case rest=>
 obtain ⟨y0,rfl,hy00,hy01,HR3,rfl⟩:=hcut;clear HR2 HK3;go_wp2_with fail
 go_loop [10,11] (fun a j=>∃(y:Int) (m:Nat),m<=t.flds.length/\a = .int .i64 y/\j = .int .i64 m/\0<=y/\y<=1000/\Hid (R=restE pv ds t y (t.flds.drop m))) (fun _ j=>t.flds.length - (intOf j).toNat)
 case atStart=>exact ⟨_,0,by omega,rfl,rfl,hy00,hy01,HR3⟩
 case round=>
  clear HR3 hy00 hy01;obtain ⟨y1,m,hm,rfl,rfl,hp0,hp1,HR3⟩:=hrel;by_cases hlt3:m<t.flds.length
  ·obtain ⟨b3,o3,rfl,hb3,hr3⟩:=H8.out.at_ hlt3;unfold RInt at hr3;rw [Nat.mul_one] at hr3;replace hr3:=(HB.out.cell (p:=⟨b3,o3+m,none⟩) hb3).trans hr3;have hR5:=HR3.out;rw [xBV hlt3] at hR5;by_cases hz:0<=t.flds[m]/\t.flds[m]<i
   ·obtain ⟨f2,hf2⟩:=bG hz.1;have hfi:f2<i:=(by omega);obtain ⟨y2,hy0⟩:∃y,ds[f2]?=some y:=⟨_,bD (by have:=HDI.out;omega)⟩;have hyp:=HP.out y2 (List.mem_of_getElem? hy0);rw [xCY hf2 hy0] at hR5;have HR5:=aF hR5;have hyp1:=hyp.1;have hyp2:=hyp.2;have hy2:=HC.out f2 y2 hy0;obtain ⟨hA,hbb⟩:=HA3.out (by omega);subst hA;replace hy2:=(HB.out.cell (p:=⟨b4,o4+f2,none⟩) hbb).trans hy2;rw [hf2] at hr3;clear hz hf2 HF HC HA3 H8 HP HDI hR5 hyp hy0 HR3;go_wp2_with fail
    all_goals
     go_round
     case rel=>exact ⟨_,m+1,by omega,rfl,by go_num,by omega,by omega,aF (by have:=HR5.out;first | exact this | (rw [Int.max_def] at this;split at this <;> first | exact this | omega))⟩
     case measure=>simp [intOf];omega
   ·rw [xDQ (by rw [HDI.out];exact hz)] at hR5;have HRB:=aF hR5;clear hR5;generalize t.flds[m]=z at *;clear HF HC HA3 H8 HP HDI HR3;go_wp2_with fail
    all_goals first
     | (go_ret;exact ⟨by rw [HRB.out];rfl,HB.out⟩)
     | (exfalso;omega)
  ·have hme:m=t.flds.length:=by omega
   subst hme;have hR5:=HR3.out;rw [List.drop_length] at hR5;have HR5:Hid (R=if t.kind=4/\(t.flds.length=0\/65535<t.flds.length) then 15 else if 32<=y1 then 19 else if t∈pv then 21 else 0):=aF hR5;have hE:=aF (HF.out t A2 c2 wr.drew HB.out.drew ⟨H8.out.keep RInt.keeps HB.out.drew.size HB.out.drew,r6,r7⟩);have HMEM:=aF (xHZ (ts:=pv) (t:=t));generalize idxF (eqT t) 0 pv=q at hE HMEM;have hic:(i:Int)<=c:=by omega
   have hwi:IntKind.i64.wrap (i:Int)=(i:Int):=by rw [IntKind.wrap_i64];omega
   clear HF HC HA3 H8 hR5 HR3 HP HDI;go_upto_region 17 with fail
   go_cut [11,126] (fun s11 s126 wx=>∃b,s126 = .bool b/\Hid (b=true↔(t.kind=4/\(t.flds.length=0\/65535<t.flds.length)))/\wr=wx)
   case first=>
    clear hE HMEM HR5 HB;go_wp2_with fail
    all_goals (go_meet;exact ⟨_,rfl,aF (by grind),rfl⟩)
   case rest=>
   obtain ⟨b,rfl,hiff,rfl⟩:=hcut;cases b
   case true=>
    have HRB:Hid (R=15):=aF (by rw [HR5.out,bA (hiff.out.1 rfl)]);clear HR5 hiff;go_wp2_with fail
    (go_ret;exact ⟨by rw [HRB.out];rfl,HB.out⟩)
   case false=>
   have HR6:Hid (R=if 32<=y1 then 19 else if t∈pv then 21 else 0):=aF (by rw [HR5.out,aZ (fun h=>absurd (hiff.out.2 h) (by decide))]);clear HR5 hiff;have e64:wrap64 (y1+1)=y1+1:=by unfold wrap64;omega
   go_upto_region 21 with fail
   all_goals first
    | (go_ret;exact ⟨by rw [show R=19 by rw [HR6.out,bA (by omega)]];rfl,HB.out⟩)
    | skip
   have HR7:Hid (R=if 0<=q then 21 else 0):=aF (by rw [HR6.out,aZ (by omega)];by_cases hq:0<=q <;> simp [hq,<- HMEM.out]);go_still_tail 4,(by kernel_rfl)
   change wpList _ _ _ _ _ wr.drew;go_wp2_with (go_at_call 107;refine hE.out.mono ?_;rintro e' w2 ⟨rfl,hb2⟩)
   ·go_ret;exact ⟨by rw [show R=21 by rw [HR7.out,bA (by omega)]];rfl,HB.out.drew.trans (hb2.mono HB.out.drew.size)⟩
   ·go_ret;exact ⟨by rw [show R=0 by rw [HR7.out,aZ (by omega)]];rfl,HB.out.drew.trans (hb2.mono HB.out.drew.size)⟩
theorem xCJ {ts:List Ty} {i:Nat} {n:Int} (hi:i<ts.length) (ht:(tyE (ts.take i) (depsN [] (ts.take i)) n ts[i]).1=0):typesE n (ts.take i) (depsN [] (ts.take i)) (ts.drop i)=typesE n (ts.take (i+1)) (depsN [] (ts.take (i+1))) (ts.drop (i+1)):=by
 rw [xBV hi,typesE,bA ht,xHO ht,bF hi,jC]
theorem xCX {n:Int} {ts:List Ty}:∀(k i:Nat),ts.length - i=k->i<=ts.length->DepOk ts i->typesE n (ts.take i) (depsN [] (ts.take i)) (ts.drop i)=0->DepOk ts ts.length
 | 0,i,hk,hi,h,_=>by
   have:i=ts.length:=by omega
   exact this ▸ h
 | k+1,i,hk,hi,h,h0=>by
   have hlt:i<ts.length:=by omega
   by_cases ht:(tyE (ts.take i) (depsN [] (ts.take i)) n ts[i]).1=0
   ·rw [xCJ hlt ht] at h0;exact xCX k (i+1) (by omega) (by omega) (h.next hlt ht) h0
   ·rw [xBV hlt,typesE,aZ ht] at h0;exact absurd h0 ht
theorem xET {n:Int} {ts:List Ty} (h:typesC n ts=0):DepOk ts ts.length:=by
 unfold typesC at h;by_cases hl:65535<ts.length
 ·rw [bA hl] at h;cases h
 ·rw [aZ hl] at h;exact xCX ts.length 0 (by omega) (by omega) (DepOk.zero ts) h
theorem xCQ (ts:List Ty) (n:Int) (A:Option Addr) (c:Nat) (w:World) (hs:Slc 5 RTy w A c ts):
 Calls Tryz.prog 25 #[.slice A ts.length c,.int .i64 n] w fun e' w'=>e' = .returned (.int .i64 (typesC n ts))/\Below w.heap.size w w':=by
 have hle:=hs.le;have hbig:=hs.big;have HS:=aF hs;obtain ⟨R,hR⟩:∃R,typesC n ts=R:=⟨_,rfl⟩;rw [hR];clear hs;by_cases hl:65535<ts.length
 ·have HR:Hid (R=15):=aF (by rw [<- hR];unfold typesC;rw [bA hl]);clear hR;go_enter Tryz.func25,Tryz.ntmps25
  go_wp2_with fail
  go_ret;exact ⟨by rw [HR.out];rfl,aX _ _⟩
 ·have HR:Hid (R=typesE n (ts.take 0) (depsN [] (ts.take 0)) (ts.drop 0)):=aF (by rw [<- hR];unfold typesC;rw [aZ hl];rfl);clear hR;go_enter Tryz.func25,Tryz.ntmps25
  go_wp2_with fail
  go_loopw [5,6] (fun v u wr=>∃(i:Nat) (A':Option Addr) (c':Nat),i<=ts.length/\u = .int .i64 i/\v = .slice A' i c'/\Hid (Slc 1 RInt wr A' c' (depsN [] (ts.take i)))/\Hid (DepOk ts i)/\Hid (Below w.heap.size w wr)/\Hid (R=typesE n (ts.take i) (depsN [] (ts.take i)) (ts.drop i))) (fun _ u _=>ts.length - (intOf u).toNat)
  case atStart=>exact ⟨0,none,0,by omega,rfl,rfl,aF ⟨Sl.nil,by simp [depsN],by omega⟩,aF (DepOk.zero ts),aF (aX _ _),HR⟩
  case round=>
   clear HR;obtain ⟨i,A',c',hi,rfl,rfl,HD,HO,HB,HR⟩:=hrel;by_cases hlt:i<ts.length
   ·have hdl:(depsN [] (ts.take i)).length=i:=by rw [xCT];simp;omega
    have HE:=aF (xEI ts _ i n A A' c c' wr (HS.out.keep RTy.keeps HB.out) HD.out hlt hdl HO.out.le);by_cases ht:(tyE (ts.take i) (depsN [] (ts.take i)) n ts[i]).1=0
    ·have HO2:=aF (HO.out.next hlt ht);have HR2:Hid (R=typesE n (ts.take (i+1)) (depsN [] (ts.take (i+1))) (ts.drop (i+1))):=aF (by rw [HR.out,xCJ hlt ht]);rw [ht] at HE;have HDP:=aF (fun w2 (hb:Below wr.heap.size wr w2)=>xCS ts (i+1) A c w2 (HS.out.keep RTy.keeps (HB.out.trans (hb.mono HB.out.size))) (by omega) (by omega) HO2.out.ok);clear ht hdl HD HO HR;go_wp2_with fail
     go_at_call 67
     refine HE.out.mono ?_;rintro e' w2 ⟨rfl,hb2⟩;have HDP2:=aF (HDP.out w2 hb2);have HB2:=aF (HB.out.trans (hb2.mono HB.out.size));clear hb2 HE HDP;go_wp2_with fail
     go_at_call 68
     refine HDP2.out.mono ?_;rintro e' w3 ⟨⟨A3,c3,rfl,hd3⟩,hb3⟩;have HD3:=aF hd3;have HB3:=aF (HB2.out.trans (hb3.mono HB2.out.size));clear hb3 hd3;go_wp2_with fail
     go_roundw
     case rel=>exact ⟨i+1,A3,c3,by omega,by go_num,by push_cast;rfl,HD3,HO2,HB3,HR2⟩
     case measure=>simp [intOf];omega
    ·have HR2:Hid (R=(tyE (ts.take i) (depsN [] (ts.take i)) n ts[i]).1):=aF (by rw [HR.out,xBV hlt,typesE,aZ ht]);generalize (tyE (ts.take i) (depsN [] (ts.take i)) n ts[i]).1=q at *;have hq:(q != 0)=true:=by simp [ht]
     clear hdl HD HO HR ht;go_wp2_with fail
     go_at_call 67
     refine HE.out.mono ?_;rintro e' w2 ⟨rfl,hb2⟩;have HB2:=aF (HB.out.trans (hb2.mono HB.out.size));clear hb2 HE;go_wp2_with fail
     go_ret;exact ⟨by rw [HR2.out];rfl,HB2.out⟩
   ·have hie:i=ts.length:=(by omega);have HR2:Hid (R=0):=aF (by rw [HR.out,bE (by omega)];rfl);clear HR HD HO;go_wp2_with fail
    go_ret;exact ⟨by rw [HR2.out];rfl,HB.out⟩
theorem xFI (ts:List Ty) (i:Nat) (A:Option Addr) (c:Nat) (w:World) (hs:Slc 5 RTy w A c ts) (hi:i<ts.length) (h64:ts.length<=65535) (hok:DepOk ts ts.length):
 Calls Tryz.prog 26 #[.slice A ts.length c,.int .i64 i] w fun e' w'=>(∃q,e' = .returned (.int .i64 q))/\Below w.heap.size w w':=by
 have hle:=hs.le;have hbig:=hs.big;have HD:=aF (xCS ts (i+1) A c w hs (by omega) (by omega) (fun j hj hlt=>hok.ok j hj (by omega)));have hdl:(depsN [] (ts.take (i+1))).length=i+1:=by rw [xCT];simp;omega
 generalize depsN [] (ts.take (i+1))=ds at HD hdl;clear hs hok;go_enter Tryz.func26,Tryz.ntmps26
 go_wp2_with fail
 go_at_call 68
 refine HD.out.mono ?_;rintro e' w2 ⟨⟨A2,c2,rfl,hd2⟩,hb2⟩;obtain ⟨b,o,rfl,hb,hr⟩:=hd2.sl.at_ (i:=i) (by omega);unfold RInt at hr;rw [Nat.mul_one] at hr;have HB2:=aF hb2;clear hb2 hd2 HD;generalize ds[i]=y at *;go_wp2_with fail
 go_ret;exact ⟨⟨y,rfl⟩,HB2.out⟩
end
end Go.Proofs.YtmknfbfppmkcfaaGreatDoor
