/-
  FactsCompare: for every two tables the law answers true, and the arguments read as they did; the card of the row. Condition: the listed variables hold at the start what the text of the program lays (the given tie; one is a table of the library, pinned by its name). (part 1)
-/
import Derived.Sort.WalkA
import Derived.Test.YtkaigkfbkpinlaaGreatDoorFP0
import Derived.Test.YtkaigkfbkpinlaaGreatDoorFP1
import Derived.Test.YtkaigkfbkpinlaaGreatDoorFP2
import Derived.Test.YtkaigkfbkpinlaaGreatDoorFP3
import Derived.Test.YtkaigkfbkpinlaaGreatDoorFP4
import Derived.Test.YtkaigkfbkpinlaaGreatDoorFP5
import Derived.Test.YtkaigkfbkpinlaaGreatDoorFP6
import Derived.Test.YtkaigkfbkpinlaaGreatDoorFP7
import Derived.Test.YtkaigkfbkpinlaaGreatDoorFP8
import Derived.Test.YtkaigkfbkpinlaaGreatDoorFP9
import Derived.Test.YtkaigkfbkpinlaaGreatDoorFP10
import Derived.Test.YtkaigkfbkpinlaaGreatDoorFP11
import Derived.Test.YtkaigkfbkpinlaaGreatDoorFP12
import Derived.Test.YtkaigkfbkpinlaaGreatDoorFP13
import Derived.Test.YtkaigkfbkpinlaaGreatDoorFP14
import Derived.Test.YtkaigkfbkpinlaaGreatDoorFP15
import Derived.Test.YtkaigkfbkpinlaaGreatDoorFP16
import Derived.Test.YtkaigkfbkpinlaaGreatDoorFP17
import Derived.Test.YtkaigkfbkpinlaaGreatDoorFP18
import Derived.Test.YtkaigkfbkpinlaaGreatDoorFP19
import Derived.Test.YtkaigkfbkpinlaaGreatDoorFP21
import Derived.Test.YtkaigkfbkpinlaaGreatDoorFP22
import Derived.Test.YtkaigkfbkpinlaaGreatDoorFP23
import Derived.Lib.Hide
import Derived.Below
import Derived.WalkSmall
import Derived.Laws.World
import Derived.Test.YtkaigkfbkpinlaaGreatDoorProg
import Derived.WalkKit
import Derived.WalkSpells
import Derived.WalkLawsBesides
import Derived.Deep.RegionHeld3
import Derived.Deep.DeepFit
import Derived.Deep.QuietTactic
import Derived.BigQuiet
import Derived.OwnWalk
import Derived.Maps.AppendAt
import Derived.Deep.DeepCutAuto
import Derived.StillTailTactics
import Derived.RangeFuncNested
import Derived.RangeFuncBound
import Derived.RangeFuncCalls
import Derived.RangeFuncLeaves
import Derived.OwnWalkIn
import Derived.TacticsInMore
import Derived.LoopNIn
import Derived.LoopIn
import Derived.Shelf.Abstract
import Derived.OrdersHeld
import Derived.Deep.RegionHeld
import Derived.Test.YtkaigkfbkpinlaaGreatDoorSg
import Derived.Lib.SliceRun
import Derived.Maps.OwnSet
import Derived.Maps.OwnOps
import Derived.StringKeys
import Derived.Deep.LoopGhost
import Derived.Laws.MakeOwn
import Derived.WideKeyPair
import Derived.WideKeyArr
import Derived.Deep.MidRow
import Derived.RangeFuncBox
import Derived.Maps.RangeWalk
import Derived.Lib.SlKeysI
import Derived.Test.YtkaigkfbkpinlaaGreatDoorSh
import Derived.Test.YtkaigkfbkpinlaaGreatDoorSj
import Derived.Lib.TrimByte
import Derived.Sort.OwnSortedInts
import Derived.Laws.AppendOwnNone
import Derived.Maps.OwnIn
import Derived.WalkMore
import Derived.Test.YtkaigkfbkpinlaaGreatDoorHV
import Derived.Test.YtkaigkfbkpinlaaGreatDoorMS
import Derived.Test.YtkaigkfbkpinlaaGreatDoorRows
import Derived.ProofKit
import Derived.Deep.Slices
import Derived.Deep.Fields
import Derived.Lib.SmallJoins
import Derived.OpenShut
import Derived.LaidMore
import Derived.Stop.Joined
import Derived.Stop.LaidErr
import Derived.Lay
import Derived.SevenTiedAt
import Derived.JoinedOf
import Derived.Test.YtkaigkfbkpinlaaGreatDoorTie
import Derived.Test.YtkaigkfbkpinlaaGreatDoorCards
import Derived.SizedLaws
namespace Go.Proofs.YtkaigkfbkpinlaaGreatDoor
set_option maxRecDepth 100000
set_option maxHeartbeats 16000000
section
open Go.RowKit
theorem xGV (p q:Plc) (A B:Option Addr) (c d:Nat) (w:World) (hx:Slc 2 RPj w A c p.proj) (hy:Slc 2 RPj w B d q.proj):
 Calls Tryz.prog 71 #[.agg #[.int .i64 p.loc,.slice A p.proj.length c],.agg #[.int .i64 q.loc,.slice B q.proj.length d]] w fun e w'=>e = .returned (.bool (isPre p q))/\Below w.heap.size w w':=by
 have hle:=hx.le;have hbig:=hx.big;have hle2:=hy.le;have hbig2:=hy.big;have hs:=hx.sl;have hs2:=hy.sl;have hB0:=bel2 w (.cells #[.int .i64 p.loc,.slice A p.proj.length c] 36) (.cells #[.int .i64 q.loc,.slice B q.proj.length d] 36);by_cases h1:p.loc=q.loc/\p.proj.length<=q.proj.length
 ·obtain ⟨h1,h2⟩:=h1;have t1:(p.loc != q.loc)=false:=by simp [h1]
  have hyes0:Hid (∀k,p.proj.length<=k->p.proj.take k=q.proj.take k->isPre p q=true):=aH (fun k hk he=>by
   have hk2:p.proj=(q.proj.take k).take p.proj.length:=by rw [<- he,List.take_of_length_le hk,cB]
   rw [List.take_take,Nat.min_eq_left hk] at hk2
   simp [isPre,h1,h2,<- hk2])
  have hno0:Hid (∀k (a:k<p.proj.length) (b:k<q.proj.length),¬p.proj[k]=q.proj[k]->isPre p q=false):=aH (fun k a b hne=>by
   have:¬p.proj=q.proj.take p.proj.length:=fun he=>hne (by
    have h3:p.proj[k]?=(q.proj.take p.proj.length)[k]?:=(by rw [<- he]);rw [List.getElem?_take,bD a,bF a,bF b] at h3
    simpa using h3)
   simp [isPre,this])
  clear hx hy h1;go_enter Tryz.func71,Tryz.ntmps71
  go_wp2_with fail
  go_loopw [5] (fun v wr=>∃k:Nat,k<=p.proj.length/\v = .int .i64 k/\wr.cell? ⟨w.heap.size,1,none⟩=some (.slice A p.proj.length c)/\wr.cell? ⟨w.heap.size+1,1,none⟩=some (.slice B q.proj.length d)/\Below w.heap.size w wr/\Hid (p.proj.take k=q.proj.take k)) (fun v _=>p.proj.length - (intOf v).toNat)
  case atStart=>exact ⟨0,by omega,rfl,by go_simp,by go_simp,hB0,aH (by simp)⟩
  case round=>
   obtain ⟨k,hk,rfl,z1,z2,hB,he⟩:=hrel;by_cases hlt:k<p.proj.length
   ·have hlt2:k<q.proj.length:=(by omega);obtain ⟨b,off,rfl,hb,hr⟩:=hs.at_ hlt;obtain ⟨b2,off2,rfl,hb2,hr2⟩:=hs2.at_ hlt2;obtain ⟨g1,g2⟩:=RPj.keeps _ _ _ w.heap.size _ _ _ (bA _) hb hB hr;obtain ⟨g3,g4⟩:=RPj.keeps _ _ _ w.heap.size _ _ _ (bA _) hb2 hB hr2;have hne:=neqPj p.proj[k] q.proj[k];have hyes:=aH (fun h=>iU he.out hlt hlt2 h);have hno:=aH (hno0.out k hlt hlt2);clear he hr hr2 hno0;generalize p.proj[k]=x at *;generalize q.proj[k]=y at *;clear hs hs2 hB0;by_cases hxy:x=y
    ·have hf:(!decide (x=y))=false:=by simp [hxy]
     rw [hf] at hne;have hyes':=aH (hyes.out hxy);clear hyes hno hf hxy;go_wp2
     go_quiet (fail)
     go_wp2
     go_roundw
     case rel=>exact ⟨k+1,by omega,by go_num,z1,z2,aI hB _,hyes'⟩
     case measure=>simp [intOf];omega
    ·have hf:(!decide (x=y))=true:=by simp [hxy]
     rw [hf] at hne;have hno':=aH (hno.out hxy);clear hyes hno hf hxy;go_wp2
     go_quiet (fail)
     go_wp2
     go_ret;exact ⟨ret_b (by simp [hno'.out]),aI hB _⟩
   ·have hfin:=aH (hyes0.out k (by omega) he.out);clear he hs hs2;go_wp2
    go_ret;exact ⟨ret_b (by simp [hfin.out]),hB⟩
 ·have hfin:Hid (isPre p q=false):=aH (by simp only [isPre,decide_eq_false_iff_not];exact fun h=>h1 ⟨h.1,h.2.1⟩);clear hx hy hs hs2;by_cases h2:p.loc=q.loc
  ·have t1:(p.loc != q.loc)=false:=by simp [h2]
   have h3:q.proj.length<p.proj.length:=by omega
   clear h2 h1;go_enter Tryz.func71,Tryz.ntmps71
   go_wp2_with fail
   go_ret;exact ⟨ret_b hfin.out.symm,hB0⟩
  ·have t1:(p.loc != q.loc)=true:=by simp [h2]
   clear h2 h1;go_enter Tryz.func71,Tryz.ntmps71
   go_wp2_with fail
   go_ret;exact ⟨ret_b hfin.out.symm,hB0⟩
theorem xGR (p q:Plc) (A B:Option Addr) (c d:Nat) (w:World) (hx:Slc 2 RPj w A c p.proj) (hy:Slc 2 RPj w B d q.proj):
 Calls Tryz.prog 41 #[.agg #[.int .i64 p.loc,.slice A p.proj.length c],.agg #[.int .i64 q.loc,.slice B q.proj.length d]] w fun e w'=>e = .returned (.bool (decide (p=q)))/\Below w.heap.size w w':=by
 have hB:=bel2 w (.cells #[.int .i64 p.loc,.slice A p.proj.length c] 36) (.cells #[.int .i64 q.loc,.slice B q.proj.length d] 36);by_cases h1:p.proj.length=q.proj.length
 ·have t1:((p.proj.length:Int) == (q.proj.length:Int))=true:=by simp [h1]
  have HC:=aH (xGV p q A B c d _ (hx.keep RPj.keeps hB) (hy.keep RPj.keeps hB))
  have hfin:Hid (isPre p q=decide (p=q)):=aH (by
   obtain ⟨l,ps⟩:=p;obtain ⟨m,qs⟩:=q;simp only [] at h1
   simp [isPre,h1])
  clear hx hy h1;go_enter Tryz.func41,Tryz.ntmps41
  go_wp2_with (go_at_call 71;refine HC.out.mono ?_;rintro e w' ⟨rfl,hb1⟩)
  go_ret;exact ⟨ret_b hfin.out,hB.trans (hb1.mono hB.size)⟩
 ·have t1:((p.proj.length:Int) == (q.proj.length:Int))=false:=by simp;omega
  have hfin:Hid (decide (p=q)=false):=aH (by simp only [decide_eq_false_iff_not];rintro rfl;exact h1 rfl);clear hx hy h1;go_enter Tryz.func41,Tryz.ntmps41
  go_wp2_with fail
  go_ret;exact ⟨ret_b hfin.out.symm,hB⟩
end
section
open Go Go.RowKit Go.Shelf
attribute [local go_sem] Oper.semAt_some
attribute [local irreducible] Calls
theorem xGS (f:Fct) (fh:FH) (w:World) (H:FcAt w f fh):
 Calls Tryz.prog 17 #[.agg (fcC f fh).toArray] w fun e' w'=>e' = .returned (.int .i64 (szW f))/\Below w.heap.size w w':=by
 obtain ⟨A0,c0,A1,c1,A2,c2,A3,c3,A4,c4⟩:=fh;have l0:=H.ln.le;have l1:=H.ed.le;have l2:=H.ki.le;have l3:=H.iv.le;have l4:=H.li.le;have m0:=H.ln.big;have m1:=H.ed.big;have m2:=H.ki.big;have m3:=H.iv.big;have m4:=H.li.big;simp only at l0 l1 l2 l3 l4 m0 m1 m2 m3 m4;clear H;unfold fcC;simp only;go_enter Tryz.func17,Tryz.ntmps17
 go_wp2_with fail
 go_ret;refine ⟨?_,(aZ _ _).alloc (bA _) _⟩;rfl
end
section
open Go Go.RowKit
attribute [local irreducible] Calls
theorem xFJ (xs ys:List (Int × Int)) (A B:Option Addr) (c d:Nat) (w:World) (hs:Slc 2 RPr w A c xs) (ht:Slc 2 RPr w B d ys):
 Calls Tryz.prog 42 #[.slice A xs.length c,.slice B ys.length d] w fun e' w'=>e' = .returned (.bool (decide (xs=ys)))/\Below w.heap.size w w':=by
 have hle:=hs.le;have hbg:=hs.big;have hle2:=ht.le;have hbg2:=ht.big;have HS:=aH hs;have HT:=aH ht;clear hs ht;obtain ⟨R,hR⟩:∃R,decide (xs=ys)=R:=⟨_,rfl⟩;rw [hR];have HR:=aH hR;clear hR;by_cases hl:xs.length=ys.length
 case neg=>
  have HF:Hid (R=false):=aH (by rw [<- HR.out];simp only [decide_eq_false_iff_not];intro h;exact hl (by rw [h]));have e1:((xs.length:Int) == (ys.length:Int))=false:=by simp;omega
  clear HR;go_enter Tryz.func42,Tryz.ntmps42
  go_wp2_with fail
  go_ret;exact ⟨by rw [HF.out];rfl,aZ _ _⟩
 have e1:((xs.length:Int) == (ys.length:Int))=true:=by simp;omega
 go_enter Tryz.func42,Tryz.ntmps42
 go_wp2_with fail
 go_loopw [5] (fun v wr=>∃i:Nat,i<=xs.length/\v = .int .i64 i/\Hid (xs.take i=ys.take i)/\Hid (Below w.heap.size w wr)) (fun v _=>xs.length - (intOf v).toNat)
 case atStart=>exact ⟨0,by omega,rfl,aH rfl,aH (aZ _ _)⟩
 case round=>
  obtain ⟨i,hi,rfl,HE,HB⟩:=hrel;by_cases hlt:i<xs.length
  ·have hlt2:i<ys.length:=by omega
   obtain ⟨b,o,rfl,hb,y⟩:=(HS.out.keep RPr.keeps HB.out).sl.at_ hlt;obtain ⟨b2,o2,rfl,hb2,z⟩:=(HT.out.keep RPr.keeps HB.out).sl.at_ hlt2;by_cases hxy:xs[i]=ys[i]
   ·have HN:=aH (tX HE.out hlt hlt2 hxy);rw [<- hxy] at z;generalize xs[i]=x at *;have p0:wr.cell? ⟨b,o+i * 2,none⟩=some (.int .i64 x.1):=y.1;have p1:wr.cell? ⟨b,o+i * 2+1,none⟩=some (.int .i64 x.2):=y.2;have q0:wr.cell? ⟨b2,o2+i * 2,none⟩=some (.int .i64 x.1):=z.1;have q1:wr.cell? ⟨b2,o2+i * 2+1,none⟩=some (.int .i64 x.2):=z.2;have hne:∀W:World,Sem.run Tryz.prog (binOp .neq 42 (.agg #[.int .i64 x.1,.int .i64 x.2]) (.agg #[.int .i64 x.1,.int .i64 x.2])) W = .ok (.bool false) W:=fun W=>by rw [neqPr x x,decide_eq_true rfl];rfl
    clear y z hxy HE;go_wp2_with fail
    go_quiet (fail)
    go_wp2_with fail
    go_roundw
    case rel=>exact ⟨i+1,by omega,by go_num,HN,aH (aI HB.out _)⟩
    case measure=>simp [intOf];omega
   ·have HF:Hid (R=false):=aH (by rw [<- HR.out];simp only [decide_eq_false_iff_not];intro h;subst h;exact hxy rfl);generalize xs[i]=x at *;generalize ys[i]=x2 at *;have p0:wr.cell? ⟨b,o+i * 2,none⟩=some (.int .i64 x.1):=y.1;have p1:wr.cell? ⟨b,o+i * 2+1,none⟩=some (.int .i64 x.2):=y.2;have q0:wr.cell? ⟨b2,o2+i * 2,none⟩=some (.int .i64 x2.1):=z.1;have q1:wr.cell? ⟨b2,o2+i * 2+1,none⟩=some (.int .i64 x2.2):=z.2
    have hne:∀W:World,Sem.run Tryz.prog (binOp .neq 42 (.agg #[.int .i64 x.1,.int .i64 x.2]) (.agg #[.int .i64 x2.1,.int .i64 x2.2])) W = .ok (.bool true) W:=fun W=>by
     rw [neqPr x x2,decide_eq_false hxy];rfl
    clear y z HE HR;go_wp2_with fail
    go_quiet (fail)
    go_wp2_with fail
    go_ret;exact ⟨by rw [HF.out];rfl,by first | exact HB.out | exact aI HB.out _⟩
  ·have HF:Hid (R=true):=aH (by rw [<- HR.out];simp only [decide_eq_true_eq];exact qU HE.out (by omega) (by omega));go_wp2_with fail
   go_ret;exact ⟨by rw [HF.out];rfl,HB.out⟩
end
section
open Go Go.RowKit
theorem xGU (f g:Fct) (h1 h2:FH) (w:World) (H1:FcAt w f h1) (H2:FcAt w g h2):
 Calls Tryz.prog 15 #[.agg (fcC f h1).toArray,.agg (fcC g h2).toArray] w fun e' w'=>e' = .returned (.bool (decide (f=g)))/\Below w.heap.size w w':=by
 obtain ⟨A0,a0,A1,a1,A2,a2,A3,a3,A4,a4⟩:=h1;obtain ⟨B0,b0,B1,b1,B2,b2,B3,b3,B4,b4⟩:=h2;obtain ⟨p0,p1,p2,p3,p4⟩:=H1;obtain ⟨q0,q1,q2,q3,q4⟩:=H2;obtain ⟨fl,fe,fk,fi,fv⟩:=f;obtain ⟨gl,ge,gk,gi,gv⟩:=g;simp only at *;obtain ⟨W,hW⟩:∃W,(w.alloc (.cells #[.slice A0 fl.length a0,.slice A1 fe.length a1,.slice A2 fk.length a2,.slice A3 fi.length a3,.slice A4 fv.length a4] 25)).alloc (.cells #[.slice B0 gl.length b0,.slice B1 ge.length b1,.slice B2 gk.length b2,.slice B3 gi.length b3,.slice B4 gv.length b4] 25)=W:=⟨_,rfl⟩;have hB:Below w.heap.size w W:=by rw [<- hW];exact aJ
 have HB:=aH hB;have HWS:Hid (W.heap.size=w.heap.size+1+1):=aH (by rw [<- hW];simp);have Hx0:=aH (show W.cell? ⟨w.heap.size,0,none⟩=some (.slice A0 fl.length a0) from by rw [<- hW];clear hW;go_simp);have Hx1:=aH (show W.cell? ⟨w.heap.size,1,none⟩=some (.slice A1 fe.length a1) from by rw [<- hW];clear hW;go_simp);have Hx2:=aH (show W.cell? ⟨w.heap.size,2,none⟩=some (.slice A2 fk.length a2) from by rw [<- hW];clear hW;go_simp);have Hx3:=aH (show W.cell? ⟨w.heap.size,3,none⟩=some (.slice A3 fi.length a3) from by rw [<- hW];clear hW;go_simp);have Hx4:=aH (show W.cell? ⟨w.heap.size,4,none⟩=some (.slice A4 fv.length a4) from by rw [<- hW];clear hW;go_simp);have Hy0:=aH (show W.cell? ⟨w.heap.size+1,0,none⟩=some (.slice B0 gl.length b0) from by rw [<- hW];clear hW;go_simp);have Hy1:=aH (show W.cell? ⟨w.heap.size+1,1,none⟩=some (.slice B1 ge.length b1) from by rw [<- hW];clear hW;go_simp);have Hy2:=aH (show W.cell? ⟨w.heap.size+1,2,none⟩=some (.slice B2 gk.length b2) from by rw [<- hW];clear hW;go_simp);have Hy3:=aH (show W.cell? ⟨w.heap.size+1,3,none⟩=some (.slice B3 gi.length b3) from by rw [<- hW];clear hW;go_simp);have Hy4:=aH (show W.cell? ⟨w.heap.size+1,4,none⟩=some (.slice B4 gv.length b4) from by rw [<- hW];clear hW;go_simp);have HP1:=aH (fun X (h:Below w.heap.size w X)=>xFJ fe ge A1 B1 a1 b1 X (p1.keep RPr.keeps h) (q1.keep RPr.keeps h));have HP2:=aH (fun X (h:Below w.heap.size w X)=>xFJ fk gk A2 B2 a2 b2 X (p2.keep RPr.keeps h) (q2.keep RPr.keeps h));have HP3:=aH (fun X (h:Below w.heap.size w X)=>xFJ fi gi A3 B3 a3 b3 X (p3.keep RPr.keeps h) (q3.keep RPr.keeps h));have HP4:=aH (fun X (h:Below w.heap.size w X)=>xFJ fv gv A4 B4 a4 b4 X (p4.keep RPr.keeps h) (q4.keep RPr.keeps h));have N1:=aH (p0.keep RLn.keeps hB);have N2:=aH (q0.keep RLn.keeps hB);have n1:=p0.le;have n2:=q0.le;have n3:=p0.big;have n4:=q0.big;clear p0 p1 p2 p3 p4 q0 q1 q2 q3 q4 hB;obtain ⟨v1,e1⟩:∃v,decide (fe=ge)=v:=⟨_,rfl⟩;rw [e1] at HP1;obtain ⟨v2,e2⟩:∃v,decide (fk=gk)=v:=⟨_,rfl⟩;rw [e2] at HP2;obtain ⟨v3,e3⟩:∃v,decide (fi=gi)=v:=⟨_,rfl⟩;rw [e3] at HP3;obtain ⟨v4,e4⟩:∃v,decide (fv=gv)=v:=⟨_,rfl⟩;rw [e4] at HP4;obtain ⟨R,hR⟩:∃R,decide ((⟨fl,fe,fk,fi,fv⟩:Fct)=⟨gl,ge,gk,gi,gv⟩)=R:=⟨_,rfl⟩;rw [hR]
 have HR:Hid (R=(decide (fl=gl) && v1 && v2 && v3 && v4)):=aH (by
  rw [<- hR,<- e1,<- e2,<- e3,<- e4,bS];simp only [bR,decide_eq_true_eq,Fct.mk.injEq];constructor
  ·rintro ⟨a,b,c,d,e⟩;exact ⟨⟨⟨⟨a,b⟩,c⟩,d⟩,e⟩
  ·rintro ⟨⟨⟨⟨a,b⟩,c⟩,d⟩,e⟩;exact ⟨a,b,c,d,e⟩)
 clear hR e1 e2 e3 e4;change Calls _ _ #[.agg #[.slice A0 fl.length a0,.slice A1 fe.length a1,.slice A2 fk.length a2,.slice A3 fi.length a3,.slice A4 fv.length a4],.agg #[.slice B0 gl.length b0,.slice B1 ge.length b1,.slice B2 gk.length b2,.slice B3 gi.length b3,.slice B4 gv.length b4]] _ _;have x0:=Hx0.out;have y0:=Hy0.out;by_cases hl:fl.length=gl.length
 case neg=>
  have e0:((fl.length:Int) != (gl.length:Int))=true:=by simp;omega
  have hne:¬fl=gl:=fun h=>hl (by rw [h])
  have HF:Hid (R=false):=aH (by rw [HR.out];simp [hne]);clear HR;go_enter Tryz.func15,Tryz.ntmps15
  go_wp2_with fail
  go_ret;exact ⟨by rw [HF.out];rfl,HB.out⟩
 have e0:((fl.length:Int) != (gl.length:Int))=false:=by simp;omega
 have HL:=aH hl;clear hl;go_enter Tryz.func15,Tryz.ntmps15
 go_wp2_with fail
 clear hW x0 y0;go_loopw [5] (fun v wr=>∃i:Nat,i<=fl.length/\v = .int .i64 i/\Hid (fl.take i=gl.take i)/\Hid (Below W.heap.size W wr)) (fun v _=>fl.length - (intOf v).toNat)
 case atStart=>exact ⟨0,by omega,rfl,aH rfl,aH (aZ _ _)⟩
 case round=>
  obtain ⟨i,hi,rfl,HE,HQ⟩:=hrel;have x0:=cQ HQ.out Hx0.out;have y0:=cQ HQ.out Hy0.out;by_cases hlt:i<fl.length
  case pos=>
   have hlt2:i<gl.length:=by have:=HL.out;omega
   obtain ⟨b,o,rfl,hb,g0,g1,g2,⟨g3,PA,pc,g4,r2,r3,r4⟩⟩:=(N1.out.keep RLn.keeps HQ.out).sl.at_ hlt;obtain ⟨bb,oo,rfl,hbb,f0,f1,f2,⟨f3,PB,pd,f4,s2,s3,s4⟩⟩:=(N2.out.keep RLn.keeps HQ.out).sl.at_ hlt2;have HC:=aH (fun (X:World) (hw:Below wr.heap.size wr X)=>xGR fl[i].place gl[i].place PA PB pc pd X ((show Slc 2 RPj wr PA pc fl[i].place.proj from ⟨r4,r2,r3⟩).keep RPj.keeps hw) ((show Slc 2 RPj wr PB pd gl[i].place.proj from ⟨s4,s2,s3⟩).keep RPj.keeps hw));have HN:=aH (tX HE.out hlt hlt2);have HD:Hid (fl[i]≠gl[i]->R=false):=aH (fun h=>by rw [HR.out,show decide (fl=gl)=false by simp only [decide_eq_false_iff_not];intro hh;subst hh;exact h rfl];simp);have hsz0:w.heap.size<wr.heap.size:=by have:=HQ.out.size;have:=HWS.out;omega
   have hsz1:w.heap.size+1<wr.heap.size:=by have:=HQ.out.size;have:=HWS.out;omega
   have hQs:=HQ.out.size;have HQS:=aH hQs;clear HE r2 r3 r4 s2 s3 s4 hQs;generalize fl[i]=x at *;generalize gl[i]=y at *;obtain ⟨xr,xp,xm,xl,xj⟩:=x;obtain ⟨yr,yp,ym,yl,yj⟩:=y;simp only at g0 g1 g2 g3 g4 f0 f1 f2 f3 f4 HC;obtain ⟨V,hV⟩:∃V,(wr.alloc (.cells #[.int .i64 xr,.int .i64 xp,.bool xm,.int .i64 xl,.slice PA xj.length pc] 38)).alloc (.cells #[.int .i64 yr,.int .i64 yp,.bool ym,.int .i64 yl,.slice PB yj.length pd] 38)=V:=⟨_,rfl⟩;have HV:=aH (show Below wr.heap.size wr V from by rw [<- hV];exact aJ);have HQV:=aH (HQ.out.trans (HV.out.mono HQ.out.size));have c0:V.cell? ⟨wr.heap.size,0,none⟩=some (.int .i64 xr):=by rw [<- hV];clear hV;go_simp
   have c1:V.cell? ⟨wr.heap.size,1,none⟩=some (.int .i64 xp):=by rw [<- hV];clear hV;go_simp
   have c2:V.cell? ⟨wr.heap.size,2,none⟩=some (.bool xm):=by rw [<- hV];clear hV;go_simp
   have c3:V.cell? ⟨wr.heap.size,3,none⟩=some (.int .i64 xl):=by rw [<- hV];clear hV;go_simp
   have c4:V.cell? ⟨wr.heap.size,4,none⟩=some (.slice PA xj.length pc):=by rw [<- hV];clear hV;go_simp
   have d0:V.cell? ⟨wr.heap.size+1,0,none⟩=some (.int .i64 yr):=by rw [<- hV];clear hV;go_simp
   have d1:V.cell? ⟨wr.heap.size+1,1,none⟩=some (.int .i64 yp):=by rw [<- hV];clear hV;go_simp
   have d2:V.cell? ⟨wr.heap.size+1,2,none⟩=some (.bool ym):=by rw [<- hV];clear hV;go_simp
   have d3:V.cell? ⟨wr.heap.size+1,3,none⟩=some (.int .i64 yl):=by rw [<- hV];clear hV;go_simp
   have d4:V.cell? ⟨wr.heap.size+1,4,none⟩=some (.slice PB yj.length pd):=by rw [<- hV];clear hV;go_simp
   by_cases h1:xr=yr
   case neg=>
    have e1:(xr != yr)=true:=by simp [h1]
    have HF:Hid (R=false):=aH (HD.out (fun h=>h1 (by injection h)));clear HD HC HN HR;go_wp2_with fail
    go_ret;exact ⟨by rw [HF.out];rfl,HB.out.trans (HQV.out.mono HB.out.size)⟩
   subst h1;by_cases h2:xp=yp
   case neg=>
    have e1:(xp != yp)=true:=by simp [h2]
    have HF:Hid (R=false):=aH (HD.out (fun h=>h2 (by injection h)));clear HD HC HN HR;go_wp2_with fail
    go_ret;exact ⟨by rw [HF.out];rfl,HB.out.trans (HQV.out.mono HB.out.size)⟩
   subst h2;by_cases h3:xm=ym
   case neg=>
    have HF:Hid (R=false):=aH (HD.out (fun h=>h3 (by injection h)));have hmm:(xm=true/\ym=false)\/(xm=false/\ym=true):=by revert h3;cases xm <;> cases ym <;> simp
    clear HD HC HN HR h3;rcases hmm with ⟨rfl,rfl⟩ | ⟨rfl,rfl⟩
    all_goals
     go_wp2_with fail
     go_ret;exact ⟨by rw [HF.out];rfl,HB.out.trans (HQV.out.mono HB.out.size)⟩
   subst h3;obtain ⟨be,hbe⟩:∃be,decide ((⟨xl,xj⟩:Plc)=⟨yl,yj⟩)=be:=⟨_,rfl⟩;rw [hbe] at HC;have HBE:=aH hbe;clear hbe;cases be
   case false=>
    have HF:Hid (R=false):=aH (HD.out (fun h=>by have h2:=HBE.out;simp only [decide_eq_false_iff_not] at h2;exact h2 (by injection h)));clear HBE HD HN HR;go_wp2_with fail
    first | refine (HC.out _ HV.out).mono ?_ | (go_at_call 41;refine (HC.out _ HV.out).mono ?_)
    rintro e' w3 ⟨rfl,hb3⟩;have HB3:=aH hb3;clear hb3;go_wp2_with fail
    go_ret;exact ⟨by rw [HF.out];rfl,HB.out.trans ((HQV.out.trans (HB3.out.mono HQV.out.size)).mono HB.out.size)⟩
   case true=>
    have HN2:=aH (HN.out (by have h2:=HBE.out;simp only [decide_eq_true_eq] at h2;rw [h2]));clear HBE HD HN HR;go_wp2_with fail
    first | refine (HC.out _ HV.out).mono ?_ | (go_at_call 41;refine (HC.out _ HV.out).mono ?_)
    rintro e' w3 ⟨rfl,hb3⟩;have HB3:=aH hb3;clear hb3;go_wp2_with fail
    go_roundw
    case rel=>exact ⟨i+1,by omega,by go_num,HN2,aH (HQV.out.trans (HB3.out.mono HQV.out.size))⟩
    case measure=>simp [intOf];omega
  case neg=>
   have HG:Hid (fl=gl):=aH (qU HE.out (by omega) (by have:=HL.out;omega));have HR2:Hid (R=(v1 && v2 && v3 && v4)):=aH (by rw [HR.out,decide_eq_true HG.out];simp);clear HR HG HE;have HW0:=HQ;have x1:=cQ HQ.out Hx1.out;have y1:=cQ HQ.out Hy1.out;have x2:=cQ HQ.out Hx2.out;have y2:=cQ HQ.out Hy2.out;have x3:=cQ HQ.out Hx3.out;have y3:=cQ HQ.out Hy3.out;have x4:=cQ HQ.out Hx4.out;have y4:=cQ HQ.out Hy4.out;have HS0:=aH (HB.out.trans (HQ.out.mono HB.out.size));cases v1
   case false=>
    have HF:Hid (R=false):=aH (by rw [HR2.out];simp);clear HR2;go_wp2_with fail
    first | refine (HP1.out _ HS0.out).mono ?_ | (go_at_call 42;refine (HP1.out _ HS0.out).mono ?_)
    rintro e' w1 ⟨rfl,hb⟩;have HW1:=aH (HW0.out.trans (hb.mono HW0.out.size));have HS1:=aH (HS0.out.trans (hb.mono HS0.out.size));clear hb;replace x2:=cQ HW1.out Hx2.out;replace y2:=cQ HW1.out Hy2.out;replace x3:=cQ HW1.out Hx3.out;replace y3:=cQ HW1.out Hy3.out;replace x4:=cQ HW1.out Hx4.out;replace y4:=cQ HW1.out Hy4.out;go_wp2_with fail
    go_ret;exact ⟨by rw [HF.out];rfl,HS1.out⟩
   cases v2
   case false=>
    have HF:Hid (R=false):=aH (by rw [HR2.out];simp);clear HR2;go_wp2_with fail
    first | refine (HP1.out _ HS0.out).mono ?_ | (go_at_call 42;refine (HP1.out _ HS0.out).mono ?_)
    rintro e' w1 ⟨rfl,hb⟩;have HW1:=aH (HW0.out.trans (hb.mono HW0.out.size));have HS1:=aH (HS0.out.trans (hb.mono HS0.out.size));clear hb;replace x2:=cQ HW1.out Hx2.out;replace y2:=cQ HW1.out Hy2.out;replace x3:=cQ HW1.out Hx3.out;replace y3:=cQ HW1.out Hy3.out;replace x4:=cQ HW1.out Hx4.out;replace y4:=cQ HW1.out Hy4.out;go_wp2_with fail
    first | refine (HP2.out _ HS1.out).mono ?_ | (go_at_call 42;refine (HP2.out _ HS1.out).mono ?_)
    rintro e' w2 ⟨rfl,hb⟩;have HW2:=aH (HW1.out.trans (hb.mono HW1.out.size));have HS2:=aH (HS1.out.trans (hb.mono HS1.out.size));clear hb;replace x3:=cQ HW2.out Hx3.out;replace y3:=cQ HW2.out Hy3.out;replace x4:=cQ HW2.out Hx4.out;replace y4:=cQ HW2.out Hy4.out;go_wp2_with fail
    go_ret;exact ⟨by rw [HF.out];rfl,HS2.out⟩
   cases v3
   case false=>
    have HF:Hid (R=false):=aH (by rw [HR2.out];simp);clear HR2;go_wp2_with fail
    first | refine (HP1.out _ HS0.out).mono ?_ | (go_at_call 42;refine (HP1.out _ HS0.out).mono ?_)
    rintro e' w1 ⟨rfl,hb⟩;have HW1:=aH (HW0.out.trans (hb.mono HW0.out.size));have HS1:=aH (HS0.out.trans (hb.mono HS0.out.size));clear hb;replace x2:=cQ HW1.out Hx2.out;replace y2:=cQ HW1.out Hy2.out;replace x3:=cQ HW1.out Hx3.out;replace y3:=cQ HW1.out Hy3.out;replace x4:=cQ HW1.out Hx4.out;replace y4:=cQ HW1.out Hy4.out;go_wp2_with fail
    first | refine (HP2.out _ HS1.out).mono ?_ | (go_at_call 42;refine (HP2.out _ HS1.out).mono ?_)
    rintro e' w2 ⟨rfl,hb⟩;have HW2:=aH (HW1.out.trans (hb.mono HW1.out.size));have HS2:=aH (HS1.out.trans (hb.mono HS1.out.size));clear hb;replace x3:=cQ HW2.out Hx3.out;replace y3:=cQ HW2.out Hy3.out;replace x4:=cQ HW2.out Hx4.out;replace y4:=cQ HW2.out Hy4.out;go_wp2_with fail
    first | refine (HP3.out _ HS2.out).mono ?_ | (go_at_call 42;refine (HP3.out _ HS2.out).mono ?_)
    rintro e' w3 ⟨rfl,hb⟩;have HW3:=aH (HW2.out.trans (hb.mono HW2.out.size));have HS3:=aH (HS2.out.trans (hb.mono HS2.out.size));clear hb;replace x4:=cQ HW3.out Hx4.out;replace y4:=cQ HW3.out Hy4.out;go_wp2_with fail
    go_ret;exact ⟨by rw [HF.out];rfl,HS3.out⟩
   have HF:Hid (R=v4):=aH (by rw [HR2.out];simp);clear HR2;go_wp2_with fail
   first | refine (HP1.out _ HS0.out).mono ?_ | (go_at_call 42;refine (HP1.out _ HS0.out).mono ?_)
   rintro e' w1 ⟨rfl,hb⟩;have HW1:=aH (HW0.out.trans (hb.mono HW0.out.size));have HS1:=aH (HS0.out.trans (hb.mono HS0.out.size));clear hb;replace x2:=cQ HW1.out Hx2.out;replace y2:=cQ HW1.out Hy2.out;replace x3:=cQ HW1.out Hx3.out;replace y3:=cQ HW1.out Hy3.out;replace x4:=cQ HW1.out Hx4.out;replace y4:=cQ HW1.out Hy4.out;go_wp2_with fail
   first | refine (HP2.out _ HS1.out).mono ?_ | (go_at_call 42;refine (HP2.out _ HS1.out).mono ?_)
   rintro e' w2 ⟨rfl,hb⟩;have HW2:=aH (HW1.out.trans (hb.mono HW1.out.size));have HS2:=aH (HS1.out.trans (hb.mono HS1.out.size));clear hb;replace x3:=cQ HW2.out Hx3.out;replace y3:=cQ HW2.out Hy3.out;replace x4:=cQ HW2.out Hx4.out;replace y4:=cQ HW2.out Hy4.out;go_wp2_with fail
   first | refine (HP3.out _ HS2.out).mono ?_ | (go_at_call 42;refine (HP3.out _ HS2.out).mono ?_)
   rintro e' w3 ⟨rfl,hb⟩;have HW3:=aH (HW2.out.trans (hb.mono HW2.out.size));have HS3:=aH (HS2.out.trans (hb.mono HS2.out.size));clear hb;replace x4:=cQ HW3.out Hx4.out;replace y4:=cQ HW3.out Hy4.out;go_wp2_with fail
   first | refine (HP4.out _ HS3.out).mono ?_ | (go_at_call 42;refine (HP4.out _ HS3.out).mono ?_)
   rintro e' w4 ⟨rfl,hb⟩;have HW4:=aH (HW3.out.trans (hb.mono HW3.out.size));have HS4:=aH (HS3.out.trans (hb.mono HS3.out.size));clear hb;go_wp2_with fail
   go_ret;exact ⟨by rw [HF.out];rfl,HS4.out⟩
end
section
open Go Go.RowKit
theorem xFG {a b:Bool} (ha:a=true) (hb:b=true):(a && b)=true:=by rw [ha,hb];rfl
theorem xGQ:(Rows.factsCompareRow.wf (OpenSpec.ofChange Rows.factsCompareSpec))=true:=by kernel_rfl
theorem xGP:(laidOutB Tryz.prog)=true:=by kernel_rfl
theorem xGO:(mapsRowed Tryz.prog)=true:=by kernel_rfl
theorem xGN:(Tryz.f4.params.all (Tryz.prog.readableRec ·))=true:=by kernel_rfl
theorem xGM:(namedTie Tryz.prog Rows.factsCompareRow.named Rows.factsCompareSpec.vars)=true:=by kernel_rfl
theorem xGL:((Rows.factsCompareRow.stops == []))=true:=by kernel_rfl
theorem xGK:((Tryz.prog.stops == []))=true:=by kernel_rfl
theorem xGJ:((Rows.factsCompareRow.knobs == []))=true:=by kernel_rfl
theorem xGI:((Tryz.prog.stopKnobs == []))=true:=by kernel_rfl
theorem xGH:((Rows.factsCompareRow.inPlace == Tryz.prog.inPlace 4))=true:=by kernel_rfl
theorem xGG:((Rows.factsCompareRow.unfollowed == Tryz.prog.unfollowed 4))=true:=by kernel_rfl
theorem xGF:((Rows.factsCompareRow.recurses == Tryz.prog.recurses 4))=true:=by kernel_rfl
theorem xGE:((Rows.factsCompareRow.named == Tryz.prog.varsNamed 4))=true:=by kernel_rfl
theorem xGD:((Rows.factsCompareRow.maps == (Tryz.f4.params.toList ++ Rows.factsCompareSpec.plain.varTypes Tryz.prog).any (Tryz.prog.mapsRec ·)))=true:=by kernel_rfl
theorem xGC:((Rows.factsCompareRow.ifaces == (Tryz.f4.params.toList ++ Rows.factsCompareSpec.plain.varTypes Tryz.prog).any (Tryz.prog.ifacesRec ·)))=true:=by kernel_rfl
theorem xGB:((Rows.factsCompareRow.mapsOut == Tryz.prog.mapsAmong Tryz.f4.resultTypes.toList))=true:=by kernel_rfl
theorem xGA:((Rows.factsCompareRow.loops == (Tryz.f4.params.toList ++ Rows.factsCompareSpec.plain.varTypes Tryz.prog).any (Tryz.prog.loopsFrom ·)))=true:=by kernel_rfl
theorem xFZ:((Rows.factsCompareRow.wideKeys == (Tryz.f4.params.toList ++ Rows.factsCompareSpec.plain.varTypes Tryz.prog ++ Tryz.f4.resultTypes.toList).any (Tryz.prog.wideKeysFrom ·)))=true:=by kernel_rfl
theorem xFY:(Rows.factsCompareSpec.vars.all (Tryz.prog.varReadable ·))=true:=by kernel_rfl
theorem xFX:(Tryz.f4.resultTypes.all (fun t=>Tryz.prog.readableRec t && decide (t<Tryz.prog.types.size)))=true:=by kernel_rfl
theorem xFW:((Rows.factsCompareRow.ifacesOut == Tryz.f4.resultTypes.toList.any (Tryz.prog.ifacesRec ·)))=true:=by kernel_rfl
theorem xFV:((Rows.factsCompareRow.loopsOut == Tryz.f4.resultTypes.toList.any (Tryz.prog.loopsFrom ·)))=true:=by kernel_rfl
theorem xFU:((Rows.factsCompareRow.plainKeys == Tryz.prog.plainKeys))=true:=by kernel_rfl
theorem xFT:(Rows.factsCompareRow.shortTexts.isNone)=true:=by kernel_rfl
theorem xFS:(Tryz.prog.stopsHeard)=true:=by kernel_rfl
theorem xFR:(Tryz.prog.mayEnter)=true:=by kernel_rfl
theorem xFQ:((Rows.factsCompareRow.lifted == Tryz.prog.liftsFinal))=true:=by kernel_rfl
theorem xFP:((Tryz.prog.make == some Rows.factsCompareRow.make))=true:=by kernel_rfl
theorem xFO:((Rows.factsCompareRow.kinds == (if Rows.factsCompareRow.domain.isEmpty then [] else Tryz.f4.params.toList.map fun t=>match Tryz.prog.underlying t with | some (.int k)=>some k | _=>none)))=true:=by kernel_rfl
theorem xFN:((Rows.factsCompareRow.pinned == Rows.factsCompareRow.pinnedBy))=true:=by kernel_rfl
theorem xFM:((Rows.factsCompareRow.veiled == (Tryz.f4.params.toList ++ Rows.factsCompareSpec.plain.varTypes Tryz.prog ++ Tryz.f4.resultTypes.toList).any (Tryz.prog.veiledRec ·)))=true:=by kernel_rfl
theorem xFL:(Rows.factsCompareRow.veiledFits Tryz.prog Tryz.f4.params.toList (Tryz.f4.params.toList ++ Rows.factsCompareSpec.plain.varTypes Tryz.prog ++ Tryz.f4.resultTypes.toList))=true:=by kernel_rfl
theorem xFI:joinedFacts Tryz.prog 4 Tryz.f4 Rows.factsCompareSpec Rows.factsCompareRow=true:=(xFG (xFG (xFG (xFG (xFG (xFG (xFG (xFG (xFG (xFG (xFG (xFG (xFG (xFG (xFG (xFG (xFG (xFG (xFG (xFG (xFG (xFG (xFG (xFG (xFG (xFG (xFG (xFG (xFG (xFG (xFG xGQ xGP) xGO) xGN) xGM) xGL) xGK) xGJ) xGI) xGH) xGG) xGF) xGE) xGD) xGC) xGB) xGA) xFZ) xFY) xFX) xFW) xFV) xFU) xFT) xFS) xFR) xFQ) xFP) xFO) xFN) xFM) xFL)
end
section
open Go Go.RowKit
attribute [local irreducible] Calls
theorem xGW (hA:AlC) (f g:Fct) (fh gh:FH) (w:World) (hT:TabsOk w) (H:FcAt w f fh) (G:FcAt w g gh):
 Calls Tryz.prog 4 #[.agg (fcC f fh).toArray,.agg (fcC g gh).toArray] w fun e' w'=>e' = .returned (.bool true)/\Below w.heap.size w w':=by
 have HAL:=aH (fun (W:World) (hb:Below w.heap.size w W)=>hA W (hT.keep hb));have HTL:=aH (fun (W:World) (hb:Below w.heap.size w W)=>xDY f fh W (H.keep hb));have HTG:=aH (fun (W:World) (hb:Below w.heap.size w W)=>xDY g gh W (G.keep hb));have HEQ:=aH (fun (W:World) (hb:Below w.heap.size w W)=>rJ f g fh gh W (H.keep hb) (G.keep hb));have HRE:=aH (fun (W:World) (hb:Below w.heap.size w W)=>xGU f g fh gh W (H.keep hb) (G.keep hb));have HSE:=aH (fun (W:World) (hb:Below w.heap.size w W)=>rJ f f fh fh W (H.keep hb) (H.keep hb));have HSZ:=aH (fun (W:World) (hb:Below w.heap.size w W)=>uR f fh W (H.keep hb));have HRS:=aH (fun (W:World) (hb:Below w.heap.size w W)=>xGS f fh W (H.keep hb));rw [decide_eq_true rfl] at HSE;generalize szW f=z at HSZ HRS;generalize decide (f=g)=u at HEQ HRE;obtain ⟨A0,c0,A1,c1,A2,c2,A3,c3,A4,c4⟩:=fh;obtain ⟨B0,d0,B1,d1,B2,d2,B3,d3,B4,d4⟩:=gh;clear H G hT hA;unfold fcC at *;simp only at *;obtain ⟨W0,hW0⟩:∃W0,w.alloc (.cells ([Value.slice A0 f.loans.length c0,.slice A1 f.edges.length c1,.slice A2 f.killed.length c2,.slice A3 f.inval.length c3,.slice A4 f.live.length c4]).toArray 25)=W0:=⟨_,rfl⟩;obtain ⟨W1,hW1⟩:∃W1,W0.alloc (.cells ([Value.slice B0 g.loans.length d0,.slice B1 g.edges.length d1,.slice B2 g.killed.length d2,.slice B3 g.inval.length d3,.slice B4 g.live.length d4]).toArray 25)=W1:=⟨_,rfl⟩;have hb0:=alF w (.cells ([Value.slice A0 f.loans.length c0,.slice A1 f.edges.length c1,.slice A2 f.killed.length c2,.slice A3 f.inval.length c3,.slice A4 f.live.length c4]).toArray 25);have hx:=cT w [Value.slice A0 f.loans.length c0,.slice A1 f.edges.length c1,.slice A2 f.killed.length c2,.slice A3 f.inval.length c3,.slice A4 f.live.length c4] 25;have hb1:=alF W0 (.cells ([Value.slice B0 g.loans.length d0,.slice B1 g.edges.length d1,.slice B2 g.killed.length d2,.slice B3 g.inval.length d3,.slice B4 g.live.length d4]).toArray 25);have hy:=cT W0 [Value.slice B0 g.loans.length d0,.slice B1 g.edges.length d1,.slice B2 g.killed.length d2,.slice B3 g.inval.length d3,.slice B4 g.live.length d4] 25;have hs0:W0.heap.size=w.heap.size+1:=by rw [<- hW0];simp [bK]
 rw [hW0] at hb0 hx;rw [hW1] at hb1 hy;rw [hs0] at hy;have HX:=aH (fun i v h=>cQ hb1 (hx i v h));have HY:=aH hy;have HB0:=aH (hb0.trans (hb1.mono hb0.size));have HW:=aH (show (w.alloc (.cells ([Value.slice A0 f.loans.length c0,.slice A1 f.edges.length c1,.slice A2 f.killed.length c2,.slice A3 f.inval.length c3,.slice A4 f.live.length c4]).toArray 25)).alloc (.cells ([Value.slice B0 g.loans.length d0,.slice B1 g.edges.length d1,.slice B2 g.killed.length d2,.slice B3 g.inval.length d3,.slice B4 g.live.length d4]).toArray 25)=W1 from by rw [hW0,hW1]);obtain ⟨x0,x1,x2,x3,x4⟩:=aS HX.out;subst hW1;subst hW0;clear hx hy hb0 hb1 hs0;go_enter Tryz.func4,Tryz.ntmps4
 go_wp2_with (first
  | (go_at_call 11;refine (HAL.out _ HB2.out).mono ?_;rintro e' w3 ⟨rfl,hb3⟩;have HB3:=aH (HB2.out.trans (hb3.mono HB2.out.size));clear hb3)
  | (go_at_call 10;refine (HTG.out _ HB1.out).mono ?_;rintro e' w2 ⟨⟨q2,rfl⟩,hb2⟩;have HB2:=aH (HB1.out.trans (hb2.mono HB1.out.size));have HX2:=aH (fun i v h=>cQ hb2 (HX1.out i v h));have HY2:=aH (fun i v h=>cQ hb2 (HY1.out i v h));clear hb2 y0 y1 y2 y3 y4;rcases (show decide (0<q2)=true\/decide (0<q2)=false from by cases decide (0<q2) <;> simp) with hq2 | hq2)
  | (go_at_call 11;refine (HAL.out _ HB1.out).mono ?_;rintro e' w3 ⟨rfl,hb3⟩;have HB3:=aH (HB1.out.trans (hb3.mono HB1.out.size));clear hb3)
  | (go_at_call 10;refine (HTL.out _ HB0.out).mono ?_;rintro e' w1 ⟨⟨q,rfl⟩,hb1⟩;have HB1:=aH (HB0.out.trans (hb1.mono HB0.out.size));have HX1:=aH (fun i v h=>cQ hb1 (HX.out i v h));have HY1:=aH (fun i v h=>cQ hb1 (HY.out i v h));clear hb1 x0 x1 x2 x3 x4;obtain ⟨y0,y1,y2,y3,y4⟩:=aS HY1.out;rcases (show decide (0<q)=true\/decide (0<q)=false from by cases decide (0<q) <;> simp) with hq | hq))
 all_goals first
  | (go_ret;exact ⟨rfl,HB3.out⟩)
  | skip
 have hS:(fun X:World=>(aD ([Value.slice A0 f.loans.length c0,.slice A1 f.edges.length c1,.slice A2 f.killed.length c2,.slice A3 f.inval.length c3,.slice A4 f.live.length c4]) X w.heap.size)/\(aD ([Value.slice B0 g.loans.length d0,.slice B1 g.edges.length d1,.slice B2 g.killed.length d2,.slice B3 g.inval.length d3,.slice B4 g.live.length d4]) X (w.heap.size+1))) w2.drew:=⟨HX2.out,HY2.out⟩;have hBd:=HB2.out.drew;refine cZ (S:=fun X:World=>(aD ([Value.slice A0 f.loans.length c0,.slice A1 f.edges.length c1,.slice A2 f.killed.length c2,.slice A3 f.inval.length c3,.slice A4 f.live.length c4]) X w.heap.size)/\(aD ([Value.slice B0 g.loans.length d0,.slice B1 g.edges.length d1,.slice B2 g.killed.length d2,.slice B3 g.inval.length d3,.slice B4 g.live.length d4]) X (w.heap.size+1))) [0,1,2,3,5,6,4,7,8,9,10,11,12,13,14,15,16,18,17,19,20,21,22] (by kernel_rfl) ?_;(refine cX (fun K1 hK1=>?_);simp only [aO];rw [bD (by rfl)];go_simp);refine (HAL.out _ hBd).mono ?_;rintro e' w3 ⟨rfl,hb⟩;have hS':=hS;replace hS:(fun X:World=>(aD ([Value.slice A0 f.loans.length c0,.slice A1 f.edges.length c1,.slice A2 f.killed.length c2,.slice A3 f.inval.length c3,.slice A4 f.live.length c4]) X w.heap.size)/\(aD ([Value.slice B0 g.loans.length d0,.slice B1 g.edges.length d1,.slice B2 g.killed.length d2,.slice B3 g.inval.length d3,.slice B4 g.live.length d4]) X (w.heap.size+1))) w3:=⟨fun i v h=>cQ hb (hS'.1 i v h),fun i v h=>cQ hb (hS'.2 i v h)⟩;clear hS';have hB3:=(hBd).trans (hb.mono (hBd).size);refine hK1.out _ _ (fun _=>hS) ?_;clear hb;((refine cY (v:=?_) ?_ hS ?_;rotate_left;(next=>(rintro X -;(try simp only [aK]);go_simp;rfl));simp only [aO]))
 (iterate 4 (refine cY (v:=?_) ?_ hS ?_;rotate_left;(next=>(rintro X ⟨qf,qg⟩;have f0:=qf 0 _ rfl;have f1:=qf 1 _ rfl;have f2:=qf 2 _ rfl;have f3:=qf 3 _ rfl;have f4:=qf 4 _ rfl;have g0:=qg 0 _ rfl;have g1:=qg 1 _ rfl;have g2:=qg 2 _ rfl;have g3:=qg 3 _ rfl;have g4:=qg 4 _ rfl;(try simp only [aK]);go_simp;rfl));simp only [aO]));(refine cX (fun K1 hK1=>?_);simp only [aO];rw [bD (by rfl)];go_simp);refine (HEQ.out _ hB3).mono ?_;rintro e' w4 ⟨rfl,hb⟩;have hS':=hS;replace hS:(fun X:World=>(aD ([Value.slice A0 f.loans.length c0,.slice A1 f.edges.length c1,.slice A2 f.killed.length c2,.slice A3 f.inval.length c3,.slice A4 f.live.length c4]) X w.heap.size)/\(aD ([Value.slice B0 g.loans.length d0,.slice B1 g.edges.length d1,.slice B2 g.killed.length d2,.slice B3 g.inval.length d3,.slice B4 g.live.length d4]) X (w.heap.size+1))) w4:=⟨fun i v h=>cQ hb (hS'.1 i v h),fun i v h=>cQ hb (hS'.2 i v h)⟩;clear hS';have hB4:=(hB3).trans (hb.mono (hB3).size);refine hK1.out _ _ (fun _=>hS) ?_;clear hb;(refine cX (fun K1 hK1=>?_);simp only [aO];rw [bD (by rfl)];go_simp);refine (HRE.out _ hB4).mono ?_;rintro e' w5 ⟨rfl,hb⟩;have hS':=hS;replace hS:(fun X:World=>(aD ([Value.slice A0 f.loans.length c0,.slice A1 f.edges.length c1,.slice A2 f.killed.length c2,.slice A3 f.inval.length c3,.slice A4 f.live.length c4]) X w.heap.size)/\(aD ([Value.slice B0 g.loans.length d0,.slice B1 g.edges.length d1,.slice B2 g.killed.length d2,.slice B3 g.inval.length d3,.slice B4 g.live.length d4]) X (w.heap.size+1))) w5:=⟨fun i v h=>cQ hb (hS'.1 i v h),fun i v h=>cQ hb (hS'.2 i v h)⟩;clear hS';have hB5:=(hB4).trans (hb.mono (hB4).size);refine hK1.out _ _ (fun _=>hS) ?_;clear hb;have equ:∀X,Sem.run Tryz.prog (binOp .eql 4 (.bool u) (.bool u)) X = .ok (.bool true) X:=fun X=>by cases u <;> rfl
 (refine cY (v:=?_) ?_ hS ?_;rotate_left;(next=>(rintro X -;(try simp only [aK]);go_simp;first | rfl | (simp only [equ];done) | (rw [equ];rfl) | (rw [equ])));(simp only [aO]));clear equ;(iterate 4 (refine cY (v:=?_) ?_ hS ?_;rotate_left;(next=>(rintro X ⟨qf,qg⟩;have f0:=qf 0 _ rfl;have f1:=qf 1 _ rfl;have f2:=qf 2 _ rfl;have f3:=qf 3 _ rfl;have f4:=qf 4 _ rfl;have g0:=qg 0 _ rfl;have g1:=qg 1 _ rfl;have g2:=qg 2 _ rfl;have g3:=qg 3 _ rfl;have g4:=qg 4 _ rfl;(try simp only [aK]);go_simp;rfl));simp only [aO]));(refine cX (fun K1 hK1=>?_);simp only [aO];rw [bD (by rfl)];go_simp);refine (HSE.out _ hB5).mono ?_;rintro e' w6 ⟨rfl,hb⟩;have hS':=hS;replace hS:(fun X:World=>(aD ([Value.slice A0 f.loans.length c0,.slice A1 f.edges.length c1,.slice A2 f.killed.length c2,.slice A3 f.inval.length c3,.slice A4 f.live.length c4]) X w.heap.size)/\(aD ([Value.slice B0 g.loans.length d0,.slice B1 g.edges.length d1,.slice B2 g.killed.length d2,.slice B3 g.inval.length d3,.slice B4 g.live.length d4]) X (w.heap.size+1))) w6:=⟨fun i v h=>cQ hb (hS'.1 i v h),fun i v h=>cQ hb (hS'.2 i v h)⟩;clear hS';have hB6:=(hB5).trans (hb.mono (hB5).size);refine hK1.out _ _ (fun _=>hS) ?_;clear hb;(iterate 4 (refine cY (v:=?_) ?_ hS ?_;rotate_left;(next=>(rintro X ⟨qf,qg⟩;have f0:=qf 0 _ rfl;have f1:=qf 1 _ rfl;have f2:=qf 2 _ rfl;have f3:=qf 3 _ rfl;have f4:=qf 4 _ rfl;have g0:=qg 0 _ rfl;have g1:=qg 1 _ rfl;have g2:=qg 2 _ rfl;have g3:=qg 3 _ rfl;have g4:=qg 4 _ rfl;(try simp only [aK]);go_simp;rfl));simp only [aO]));(refine cX (fun K1 hK1=>?_);simp only [aO];rw [bD (by rfl)];go_simp);refine (HSZ.out _ hB6).mono ?_;rintro e' w7 ⟨rfl,hb⟩;have hS':=hS;replace hS:(fun X:World=>(aD ([Value.slice A0 f.loans.length c0,.slice A1 f.edges.length c1,.slice A2 f.killed.length c2,.slice A3 f.inval.length c3,.slice A4 f.live.length c4]) X w.heap.size)/\(aD ([Value.slice B0 g.loans.length d0,.slice B1 g.edges.length d1,.slice B2 g.killed.length d2,.slice B3 g.inval.length d3,.slice B4 g.live.length d4]) X (w.heap.size+1))) w7:=⟨fun i v h=>cQ hb (hS'.1 i v h),fun i v h=>cQ hb (hS'.2 i v h)⟩;clear hS';have hB7:=(hB6).trans (hb.mono (hB6).size);refine hK1.out _ _ (fun _=>hS) ?_;clear hb;(refine cX (fun K1 hK1=>?_);simp only [aO];rw [bD (by rfl)];go_simp);refine (HRS.out _ hB7).mono ?_;rintro e' w8 ⟨rfl,hb⟩;have hS':=hS;replace hS:(fun X:World=>(aD ([Value.slice A0 f.loans.length c0,.slice A1 f.edges.length c1,.slice A2 f.killed.length c2,.slice A3 f.inval.length c3,.slice A4 f.live.length c4]) X w.heap.size)/\(aD ([Value.slice B0 g.loans.length d0,.slice B1 g.edges.length d1,.slice B2 g.killed.length d2,.slice B3 g.inval.length d3,.slice B4 g.live.length d4]) X (w.heap.size+1))) w8:=⟨fun i v h=>cQ hb (hS'.1 i v h),fun i v h=>cQ hb (hS'.2 i v h)⟩;clear hS';have hB8:=(hB7).trans (hb.mono (hB7).size);refine hK1.out _ _ (fun _=>hS) ?_;clear hb;have eqz:decide (z=z)=true:=decide_eq_true rfl;(iterate 3 (refine cY (v:=?_) ?_ hS ?_;rotate_left;(next=>(rintro X -;(try simp only [aK]);go_simp;rfl));simp only [aO]));refine dI ?_;have HB9:=aH hB8;clear hS hB3 hB4 hB5 hB6 hB7 hB8 hBd eqz;go_wp2_with fail
 go_ret;exact ⟨rfl,HB9.out⟩
end
section
open Go Go.RowKit
theorem xGT (f g:Fct) (fh gh:FH) (w:World) (hT:TabsOk w) (H:FcAt w f fh) (G:FcAt w g gh):
 Calls Tryz.prog 4 #[.agg (fcC f fh).toArray,.agg (fcC g gh).toArray] w fun e' w'=>e' = .returned (.bool true)/\Below w.heap.size w w':=
 xGW qP f g fh gh w hT H G
end
section
open Go Go.ChangeShapes Go.WideShapes Go.ChangeAt Go.RowKit
theorem xFH (os:Os) (started:os.Started) (H:Type) (enc:TypeId × Value->H):
 ReturnsInHanded {} Tryz.checked os 4 .any (fun w args=>(Rows.factsCompareSpec.pre enc Tryz.prog Tryz.f4 [] false w args/\laidMetH Tryz.prog Rows.factsCompareRow.laid w)/\sizedMet enc Tryz.prog Tryz.f4 (OpenSpec.ofChange Rows.factsCompareSpec) false w args)
  (Rows.factsCompareSpec.post enc Tryz.prog Tryz.f4 false true false false):=by
 refine returnsInHanded_of_change_and (C:=Tryz.checked) (X:=fun w _=>laidMetH Tryz.prog Rows.factsCompareRow.laid w) (fun _ _ _ hh h=>h.of_heap hh) Tryz.own started (by kernel_rfl) Tryz.func4
  (ChangeSpec.witness_shaped (enc:=enc) (C:=Tryz.checked) (os:=os) (X:=fun w _=>laidMetH Tryz.prog Rows.factsCompareRow.laid w) false (World.laidAll Tryz.prog os Rows.factsCompareRow.laid) #[.agg #[.slice none 0 0,.slice none 0 0,.slice none 0 0,.slice none 0 0,.slice none 0 0],.agg #[.slice none 0 0,.slice none 0 0,.slice none 0 0,.slice none 0 0,.slice none 0 0]] 8 (World.laidAll_os _ _ _) (World.shaped_of_ZipB (by kernel_rfl) (by kernel_rfl)) (by kernel_rfl) (by kernel_rfl) (by kernel_rfl)
    (by rw [MakeChecks.laidMetH_plain _ _ _ (by kernel_rfl)];exact laidMet_laidAll _ (by kernel_rfl) (by kernel_rfl))) ?_
 intro W base args ds gs before hval0 hW _ hwt hL _;have hval:∀(j:Nat) t v,Tryz.f4.params[j]?=some t->args[j]?=some v->Value.okWide Tryz.prog W .any base t v:=hval0;have hW':=hW;obtain ⟨p,q,hA0,hV,rfl,hfz,hnd⟩:=hW;have hA:DataW.TrodAll enc Tryz.prog W 0 (fun _=>true) true Tryz.f4.params.toList args.toList ds p:=hA0;rw [Tryz.params4] at hA hval;obtain ⟨v0,v1,d0,d1,p0,p1,rfl,rfl,rfl,h0,h1⟩:=trodAll_two hA;obtain ⟨rfl,rfl⟩:=trodVars_none hV;obtain ⟨f0,fh0,rfl,hf0,hg0⟩:=sW (hval 0 _ v0 rfl rfl) h0;have hTT:=xDW hL;obtain ⟨f1,fh1,rfl,hf1,hg1⟩:=sW (hval 1 _ v1 rfl rfl) h1;clear hA0 hval0;refine (xGT f0 f1 fh0 fh1 W hTT hf0 hf1).mono fun e W' ⟨he,hb⟩=>?_
 exact ⟨_,he,zU Tryz.laidOut rfl (by kernel_rfl) Tryz.underlying4 rfl (by rw [Tryz.params4];intro t ht;simp at ht;rcases ht with rfl | rfl <;> exact ⟨by kernel_rfl,of_decide_eq_true (by kernel_rfl)⟩) hW' hb⟩
theorem xFK:Rows.FactsCompareSaid:=
 OpenClaim.holds_of_wide 4 Tryz.f4 rfl rfl rfl rfl rfl rfl rfl ⟨rfl,rfl,rfl,rfl,rfl⟩ rfl rfl rfl rfl rfl (by kernel_rfl) Tryz.func4 xFI
  (of_decide_eq_true (by kernel_rfl)) (by unfold Func.isWrapper;first | (rw [bD (by decide +kernel)];kernel_rfl) | (rw [bB (by decide +kernel)];exact ⟨rfl,rfl⟩))
  (fun os started H enc _=>xFH os started H enc)
theorem FactsCompare_holds:Rows.FactsCompareCardSaid:=
 Claim7.holds_tied_plain_at .later [] [.data, .widerDeep, .widerDeep, .pinned] true (true, "6518f6fc3daf74643f48fddcae068f674ba94daf43cde20ff8f8b6a60d5b26e4") false
  xFK (fun _ h=>by cases h) (by kernel_rfl) (fun _ h=>by cases h) factsCompare_row_tie rfl ⟨rfl,rfl⟩ (by kernel_rfl) rfl
  (fun f fn hf hfn=>by
    obtain rfl:f=4:=Option.some.inj ((show Tryz.prog.funcNamed Rows.factsCompareRow.func=some 4 by kernel_rfl).symm.trans hf) |>.symm;obtain rfl:fn=Tryz.f4:=(Option.some.inj (Tryz.func4.symm.trans hfn)).symm
    exact ⟨by kernel_rfl,fun j t ht=>by
     rw [Tryz.params4] at ht;have hm:t∈[25,25]:=(by simpa using Array.mem_of_getElem? ht);have hall:([25,25].all fun u=> !Tryz.prog.wantsStandIn u)=true:=by kernel_rfl
     exact (show Tryz.prog.wantsStandIn t=false by simpa using List.all_eq_true.1 hall t hm)⟩)
  (by kernel_rfl)
end
end Go.Proofs.YtkaigkfbkpinlaaGreatDoor
