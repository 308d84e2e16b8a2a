/-
  Parts of the proof: V23 V24 V25 V26 Set A3 FE FF A2 A6 A7.
-/
import Derived.Sort.WalkA
import Derived.Test.YtkaigkfbkpinlaaGreatDoorFP0
import Derived.Test.YtkaigkfbkpinlaaGreatDoorFP5
import Derived.Test.YtkaigkfbkpinlaaGreatDoorFP3
import Derived.Test.YtkaigkfbkpinlaaGreatDoorFP2
import Derived.Test.YtkaigkfbkpinlaaGreatDoorFP1
import Derived.Test.YtkaigkfbkpinlaaGreatDoorFP6
import Derived.Maps.RangeWalk
import Derived.Lib.SlKeysI
import Derived.RangeFuncCalls
namespace Go.Proofs.YtkaigkfbkpinlaaGreatDoor
set_option maxRecDepth 100000
set_option maxHeartbeats 16000000
section
open Go Go.RowKit
theorem oE (W:World) (x y:Int) (T:TypeId) (k:Nat) (hk:k=W.heap.size):Slc 1 RInt (W.alloc (.cells #[.int .i64 x,.int .i64 y] T)) (some ⟨k,0,none⟩) 2 [x,y]:=by
 subst hk;refine ⟨fun _=>⟨_,_,rfl,by simp,fun i q hi=>?_⟩,by simp,by omega⟩;show (W.alloc _).cell? ⟨W.heap.size,0+i * 1,none⟩=_;rw [World.cell?_alloc_at _ _ _ _ (by simp),Nat.zero_add,Nat.mul_one];match i,hi with
 | 0,hi=>simp at hi;subst hi;rfl
 | 1,hi=>simp at hi;subst hi;rfl
 | i+2,hi=>simp at hi
theorem dD {w w1:World} {l1 l2:List Value} {t1 t2:TypeId} (hb:Below ((w.alloc (.cells l1.toArray t1)).alloc (.cells l2.toArray t2)).heap.size ((w.alloc (.cells l1.toArray t1)).alloc (.cells l2.toArray t2)) w1):
 (∀i v,l1[i]?=some v->w1.cell? ⟨w.heap.size,i,none⟩=some v)/\(∀i v,l2[i]?=some v->w1.cell? ⟨w.heap.size+1,i,none⟩=some v):=by
 refine ⟨fun i v hi=>cQ hb ?_,fun i v hi=>cQ hb ?_⟩
 ·exact cQ ((aZ _ _).alloc (bA _) _) (cT w l1 t1 i v hi)
 ·have:=cT (w.alloc (.cells l1.toArray t1)) l2 t2 i v hi;rwa [bK] at this
theorem fM (b:Bdy) (bh:BH) (r:Nat) (p:Plc) (A:Option Addr) (c:Nat) (w:World) (H:BdAt w b bh) (hp:Slc 2 RPj w A c p.proj) (hok:Okay b.types b.locals):
 Calls Tryz.prog 118 #[.agg (ckC b bh r).toArray,.agg #[.int .i64 p.loc,.slice A p.proj.length c]] w fun e' w'=>e' = .returned (.tuple #[.int .i64 (tyB b p).1,.int .i64 (writE b p)])/\Below w.heap.size w w':=by
 have HT:=aH (fun W (hb:Below w.heap.size w W)=>eI b bh r p A c W (H.keep hb) (hp.keep RPj.keeps hb) hok);have HM:=aH (fun W (hb:Below w.heap.size w W)=>lN b.types b.locals p.loc p.proj bh.A3 bh.A4 A bh.c3 bh.c4 c W (H.keep hb).typ (H.keep hb).loc (hp.keep RPj.keeps hb) hok);change Hid (∀W,Below w.heap.size w W->Calls Tryz.prog 150 _ W fun e' w'=>e' = .returned (.bool (mutB b p))/\Below W.heap.size W w') at HM;have HQ:Hid (writE b p=if (tyB b p).2≠0 then (tyB b p).2 else fail22 (!mutB b p)):=aH rfl;generalize hq:writE b p=q at HQ ⊢;clear hq;generalize tyB b p=t at HT HQ ⊢;generalize mutB b p=mu at HM HQ;obtain ⟨t,e⟩:=t;simp only at HT HQ ⊢;clear H hp hok;unfold ckC at HT ⊢;by_cases he:e=0
 ·subst he;have HF:Hid (firstE [0,fail22 !mu]=q):=aH (by rw [HQ.out];cases mu <;> rfl);clear HQ;go_enter Tryz.func118,Tryz.ntmps118
  go_wp2_with (first
   | (go_at_call 125;refine (HT.out _ (bel2 _ _ _)).mono ?_;rintro e' w1 ⟨rfl,hb1⟩;have HB:=aH ((bel2 _ _ _).trans (hb1.mono (bel2 _ _ _).size));obtain ⟨y,z⟩:=dD hb1;obtain ⟨-,-,-,y3,y4⟩:=aS y;obtain ⟨z0,z1⟩:=aP z;clear y z hb1)
   | (go_at_call 150;refine (HM.out _ HB.out).mono ?_;rintro e' w2 ⟨rfl,hb2⟩;have HB2:=aH (HB.out.trans (hb2.mono HB.out.size));clear hb2)
   | (go_at_call 122;refine (dX _ _).mono ?_;rintro e' w3 ⟨rfl,hw⟩;obtain rfl:=hw.symm)
   | (go_at_call 112;refine (fE [0,fail22 !mu] _ 2 _ (oE _ _ _ _ _ rfl)).mono ?_;rintro e' w4 ⟨rfl,hw⟩;obtain rfl:=hw.symm))
  go_ret2
  exact ⟨by rw [<- HF.out];rfl,HB2.out.alloc HB2.out.size _⟩
 ·have HF:Hid (firstE [e,fail22 false]=q):=aH (by rw [HQ.out,bD he];show (if e=0 then _ else e)=e;rw [bB he]);have e1:(e == 0)=false:=by simp [he]
  clear HQ he HM;go_enter Tryz.func118,Tryz.ntmps118
  go_wp2_with (first
   | (go_at_call 125;refine (HT.out _ (bel2 _ _ _)).mono ?_;rintro e' w1 ⟨rfl,hb1⟩;have HB:=aH ((bel2 _ _ _).trans (hb1.mono (bel2 _ _ _).size));obtain ⟨y,z⟩:=dD hb1;obtain ⟨-,-,-,y3,y4⟩:=aS y;obtain ⟨z0,z1⟩:=aP z;clear y z hb1)
   | (go_at_call 122;refine (dX _ _).mono ?_;rintro e' w3 ⟨rfl,hw⟩;obtain rfl:=hw.symm)
   | (go_at_call 112;refine (fE [e,fail22 false] _ 2 _ (oE _ _ _ _ _ rfl)).mono ?_;rintro e' w4 ⟨rfl,hw⟩;obtain rfl:=hw.symm))
  go_ret2
  exact ⟨by rw [<- HF.out];rfl,HB.out.alloc HB.out.size _⟩
theorem mP (b:Bdy) (bh:BH) (r:Nat) (o:Opd) (A:Option Addr) (c:Nat) (w:World) (H:BdAt w b bh) (hp:Slc 2 RPj w A c o.place.proj) (hok:Okay b.types b.locals)
 (hty:o.kind≠2->o.kind≠3->o.kind≠4->(tyB b o.place).2=0):
 Calls Tryz.prog 123 #[.agg (ckC b bh r).toArray,.agg (opC o A c).toArray] w fun e' w'=>e' = .returned (.int .i64 (kindO b o))/\Below w.heap.size w w':=by
 have HT:=aH (fun W (hb:Below w.heap.size w W)=>eI b bh r o.place A c W (H.keep hb) (hp.keep RPj.keeps hb) hok);have HQ:Hid (kindO b o=if o.kind=2 then 2 else if o.kind=3 then 1 else if o.kind=4 then 0 else kindT b (tyB b o.place).1):=aH rfl;generalize kindO b o=q at HQ ⊢;have HS:=aH H.typ;have hin:=kP hok (l:=o.place.loc) (ps:=o.place.proj);change (tyB b o.place).2=0->0<=(tyB b o.place).1/\(tyB b o.place).1<b.types.length at hin;generalize tyB b o.place=t at HT HQ hty hin;obtain ⟨t,e⟩:=t;simp only at HQ hty hin;clear H hp hok;unfold ckC at HT ⊢;unfold opC;obtain ⟨A3,h3⟩:∃x,bh.A3=x:=⟨_,rfl⟩;rw [h3] at HS HT ⊢;clear h3;by_cases h2:o.kind=2
 ·have HF:Hid (q=2):=aH (by rw [HQ.out,bD h2]);rw [h2];clear HQ HT HS hty hin;go_enter Tryz.func123,Tryz.ntmps123
  go_wp2_with fail
  go_ret;exact ⟨by rw [HF.out];rfl,aJ⟩
 by_cases h3:o.kind=3
 ·have HF:Hid (q=1):=aH (by rw [HQ.out,bB h2,bD h3]);rw [h3];clear HQ HT HS hty hin;go_enter Tryz.func123,Tryz.ntmps123
  go_wp2_with fail
  go_ret;exact ⟨by rw [HF.out];rfl,aJ⟩
 by_cases h4:o.kind=4
 ·have HF:Hid (q=0):=aH (by rw [HQ.out,bB h2,bB h3,bD h4]);rw [h4];clear HQ HT HS hty hin;go_enter Tryz.func123,Tryz.ntmps123
  go_wp2_with fail
  go_ret;exact ⟨by rw [HF.out];rfl,aJ⟩
 obtain rfl:=hty h2 h3 h4;obtain ⟨g1,g2⟩:=hin rfl;obtain ⟨k,rfl⟩:=bI g1;have hlt:k<b.types.length:=by omega
 obtain ⟨bb,oo,rfl,hbb,hx⟩:=HS.out.sl.at_ hlt;have HF:Hid (q=b.types[k].kind):=aH (by rw [HQ.out,bB h2,bB h3,bB h4,kindT];simp [hlt]);generalize b.types[k]=ty at hx HF;obtain ⟨r1,-⟩:=hx;have e2:(o.kind == 2)=false:=by simp [h2]
 have e3:(o.kind == 3)=false:=by simp [h3]
 have e4:(o.kind == 4)=false:=by simp [h4]
 clear HQ HS hty hin h2 h3 h4 g1;go_enter Tryz.func123,Tryz.ntmps123
 go_wp2_with (go_at_call 125;refine (HT.out _ (bel2 _ _ _)).mono ?_;rintro e' w1 ⟨rfl,hb1⟩;have HB:=aH ((bel2 _ _ _).trans (hb1.mono (bel2 _ _ _).size));obtain ⟨y,-⟩:=dD hb1;have y3:=y 3 _ rfl;have x1:=cQ HB.out r1;clear y hb1)
 go_ret;exact ⟨by rw [HF.out];rfl,HB.out⟩
theorem pY (b:Bdy) (bh:BH) (r:Nat) (o:Opd) (A:Option Addr) (c:Nat) (w:World) (H:BdAt w b bh) (hp:Slc 2 RPj w A c o.place.proj) (hok:Okay b.types b.locals)
 (hcop:∀W,Below w.heap.size w W->∀i:Int,0<=i->i<b.types.length->Calls Tryz.prog 155 #[.slice bh.A3 b.types.length bh.c3,.int .i64 i] W fun e' w'=>e' = .returned (.bool (copB b.types i))/\Below W.heap.size W w'):
 Calls Tryz.prog 121 #[.agg (ckC b bh r).toArray,.agg (opC o A c).toArray] w fun e' w'=>e' = .returned (.int .i64 (opE b o))/\Below w.heap.size w w':=by
 have HT:=aH (fun W (hb:Below w.heap.size w W)=>eI b bh r o.place A c W (H.keep hb) (hp.keep RPj.keeps hb) hok);have HZ:=aH (fun W=>eN o.place A c W);have HD:=aH (fun W (hb:Below w.heap.size w W)=>kF o.place 0 A c W (hp.keep RPj.keeps hb));have HQ:Hid (opE b o=if o.kind<0\/4<o.kind then 14 else if (o.kind≠2/\o.kind≠3/\o.n≠0)\/(1<o.kind/\zeroP o.place=false) then 2 else if o.kind=3/\o.n≠0/\o.n≠1 then 3 else if 1<o.kind then 0 else if (tyB b o.place).2≠0 then (tyB b o.place).2 else if o.kind=0 then fail22 (!copB b.types (tyB b o.place).1) else fail22 (hasD o.place.proj 0)):=aH rfl;have hin:=kP hok (l:=o.place.loc) (ps:=o.place.proj);change (tyB b o.place).2=0->0<=(tyB b o.place).1/\(tyB b o.place).1<b.types.length at hin;have HIN:=aH (fun W (hb:Below w.heap.size w W) (h:(tyB b o.place).2=0)=>hcop W hb (tyB b o.place).1 (hin h).1 (hin h).2);clear hcop hin;generalize opE b o=q at HQ ⊢;generalize zeroP o.place=z at HZ HQ;generalize hasD o.place.proj 0=hd at HD HQ;generalize tyB b o.place=t at HT HQ HIN;obtain ⟨t,e⟩:=t;simp only at HQ HIN;generalize copB b.types t=cp at HIN HQ;obtain ⟨k,pl,n⟩:=o;simp only at HQ HT HZ HD;clear H hp hok;unfold ckC at HT ⊢;unfold opC;simp only;by_cases h01:k=0\/k=1
 ·by_cases hn:n=0
  ·subst hn;by_cases he:e=0
   ·subst he;rcases h01 with rfl | rfl
    ·have HF:Hid (q=fail22 (!cp)):=aH (by rw [HQ.out];simp);have HC:=aH (fun W hb=>HIN.out W hb rfl);clear HQ HZ HD HIN;go_enter Tryz.func121,Tryz.ntmps121
     go_wp2_with (first
      | (go_at_call 125;refine (HT.out _ (bel2 _ _ _)).mono ?_;rintro e' w1 ⟨rfl,hb1⟩;have HB:=aH ((bel2 _ _ _).trans (hb1.mono (bel2 _ _ _).size));obtain ⟨z,y⟩:=dD hb1;have z3:=z 3 _ rfl;obtain ⟨y0,y1,y2,y3⟩:=aR y;clear y z hb1)
      | (go_at_call 155;refine (HC.out _ HB.out).mono ?_;rintro e' w2 ⟨rfl,hb2⟩;have HB2:=aH (HB.out.trans (hb2.mono HB.out.size));clear hb2)
      | (go_at_call 122;refine (dX _ _).mono ?_;rintro e' w3 ⟨rfl,hw⟩;obtain rfl:=hw.symm))
     go_ret;exact ⟨by rw [HF.out];rfl,HB2.out⟩
    ·have HF:Hid (q=fail22 hd):=aH (by rw [HQ.out];simp);clear HQ HZ HIN;go_enter Tryz.func121,Tryz.ntmps121
     go_wp2_with (first
      | (go_at_call 125;refine (HT.out _ (bel2 _ _ _)).mono ?_;rintro e' w1 ⟨rfl,hb1⟩;have HB:=aH ((bel2 _ _ _).trans (hb1.mono (bel2 _ _ _).size));obtain ⟨z,y⟩:=dD hb1;have z3:=z 3 _ rfl;obtain ⟨y0,y1,y2,y3⟩:=aR y;clear y z hb1)
      | (go_at_call 95;refine (HD.out _ HB.out).mono ?_;rintro e' w2 ⟨rfl,hb2⟩;have HB2:=aH (HB.out.trans (hb2.mono HB.out.size));clear hb2)
      | (go_at_call 122;refine (dX _ _).mono ?_;rintro e' w3 ⟨rfl,hw⟩;obtain rfl:=hw.symm))
     go_ret;exact ⟨by rw [HF.out];rfl,HB2.out⟩
   ·have HF:Hid (q=e):=aH (by rw [HQ.out];rcases h01 with rfl | rfl <;> simp [he]);have e5:(e != 0)=true:=by simp [he]
    clear HQ HZ HIN HD;rcases h01 with rfl | rfl
    all_goals
     go_enter Tryz.func121,Tryz.ntmps121
     go_wp2_with (go_at_call 125;refine (HT.out _ (bel2 _ _ _)).mono ?_;rintro e' w1 ⟨rfl,hb1⟩;have HB:=aH ((bel2 _ _ _).trans (hb1.mono (bel2 _ _ _).size));obtain ⟨z,y⟩:=dD hb1;have z3:=z 3 _ rfl;obtain ⟨y0,y1,y2,y3⟩:=aR y;clear y z hb1)
     go_ret;exact ⟨by rw [HF.out];rfl,HB.out⟩
  ·have HF:Hid (q=2):=aH (by rw [HQ.out];rcases h01 with rfl | rfl <;> simp [hn]);have e5:(n != 0)=true:=by simp [hn]
   clear HQ HZ HIN HD HT;rcases h01 with rfl | rfl
   all_goals
    go_enter Tryz.func121,Tryz.ntmps121
    go_wp2_with fail
    go_ret;exact ⟨by rw [HF.out];rfl,aJ⟩
 ·have HK:Hid (¬(k=0\/k=1)):=aH h01;have e0:(k == 0)=false:=by simp;omega
  have e1:(k == 1)=false:=by simp;omega
  clear h01 HT HD HIN;go_enter Tryz.func121,Tryz.ntmps121
  go_wp2_with (go_at_call 117;refine (HZ.out _).mono ?_;rintro e' w1 ⟨rfl,hb1⟩;have HB:=aH ((bel2 _ _ _).trans (hb1.mono (bel2 _ _ _).size));obtain ⟨-,y⟩:=dD hb1;obtain ⟨y0,y1,y2,y3⟩:=aR y;clear y hb1)
  all_goals
   go_ret;refine ⟨?_,by first | exact HB.out | exact aJ⟩;have HF:=HQ.out;have hk:=HK.out;try clear y0 y1 y2 y3
   clear HQ HZ HK;rw [HF];refine congrArg (fun i=>Ending.returned (Value.int .i64 i)) ?_;clear HF;have b2:(k == 2)=decide (k=2):=by rw [bS];simp
   have b3:(k == 3)=decide (k=3):=by rw [bS];simp
   have b4:(k != 4)=decide (k≠4):=by rw [bS];simp
   have b5:(n != 0)=decide (n≠0):=by rw [bS];simp
   have b6:(n != 1)=decide (n≠1):=by rw [bS];simp
   simp only [b2,b3,b4,b5,b6] at *;clear b2 b3 b4 b5 b6;grind
theorem xAE (b:Bdy) (bh:BH) (r:Nat) (o:Opd) (f:Nat) (A:Option Addr) (c:Nat) (w:World) (H:BdAt w b bh) (hp:Slc 2 RPj w A c o.place.proj) (hok:Okay b.types b.locals)
 (hty:o.kind≠2->o.kind≠3->o.kind≠4->(tyB b o.place).2=0) (hf:f<b.types.length)
 (hsub:∀W,Below w.heap.size w W->∀i:Int,0<=i->i<b.types.length->Calls Tryz.prog 188 #[.pointer (some ⟨r,0,none⟩),.slice bh.A3 b.types.length bh.c3,.int .i64 i,.int .i64 f] W fun e' w'=>e' = .returned (.bool (subB b i f))/\Below W.heap.size W w'):
 Calls Tryz.prog 156 #[.agg (ckC b bh r).toArray,.agg (opC o A c).toArray,.int .i64 f] w fun e' w'=>e' = .returned (.bool (fitsO b o f))/\Below w.heap.size w w':=by
 have HT:=aH (fun W (hb:Below w.heap.size w W)=>eI b bh r o.place A c W (H.keep hb) (hp.keep RPj.keeps hb) hok);have HK:=aH (fun W (hb:Below w.heap.size w W)=>mP b bh r o A c W (H.keep hb) (hp.keep RPj.keeps hb) hok hty);have HQ:Hid (fitsO b o f=if o.kind≠0/\o.kind≠1 then decide (kindO b o=kindT b f) else subB b (tyB b o.place).1 f):=aH rfl;have HS:=aH H.typ;have hin:=kP hok (l:=o.place.loc) (ps:=o.place.proj);change (tyB b o.place).2=0->0<=(tyB b o.place).1/\(tyB b o.place).1<b.types.length at hin;have HIN:=aH (fun W (hb:Below w.heap.size w W) (h:(tyB b o.place).2=0)=>hsub W hb (tyB b o.place).1 (hin h).1 (hin h).2);clear hsub hin;generalize fitsO b o f=q at HQ ⊢;generalize tyB b o.place=t at HT HQ HIN hty;generalize kindO b o=ko at HK HQ;obtain ⟨t,e⟩:=t;simp only at HQ HIN hty;clear H hp hok;unfold ckC at HT HK ⊢;unfold opC at HK ⊢;by_cases h01:o.kind=0\/o.kind=1
 ·obtain rfl:e=0:=hty (by omega) (by omega) (by omega);have HF:Hid (q=subB b t f):=aH (by rw [HQ.out,bB (by omega)]);have HC:=aH (fun W hb=>HIN.out W hb rfl);clear HQ HIN HK HS hty;generalize subB b t f=sb at HF HC;obtain ⟨k,hk⟩:∃k,o.kind=k:=⟨_,rfl⟩;rw [hk] at h01 ⊢;clear hk;rcases h01 with rfl | rfl
  all_goals
   go_enter Tryz.func156,Tryz.ntmps156
   go_wp2_with (first
    | (go_at_call 125;refine (HT.out _ (bel2 _ _ _)).mono ?_;rintro e' w1 ⟨rfl,hb1⟩;have HB:=aH ((bel2 _ _ _).trans (hb1.mono (bel2 _ _ _).size));obtain ⟨y,-⟩:=dD hb1;obtain ⟨-,-,-,y3,-,-,-,y7⟩:=aV y;clear y hb1)
    | (go_at_call 188;refine (HC.out _ HB.out).mono ?_;rintro e' w2 ⟨rfl,hb2⟩;have HB2:=aH (HB.out.trans (hb2.mono HB.out.size));clear hb2))
   go_ret;exact ⟨by rw [HF.out];rfl,HB2.out⟩
 ·have HF:Hid (q=decide (ko=kindT b f)):=aH (by rw [HQ.out,bD ⟨fun h=>h01 (Or.inl h),fun h=>h01 (Or.inr h)⟩]);have e0:(o.kind != 0)=true:=by simp;omega
  have e1:(o.kind != 1)=true:=by simp;omega
  clear HQ HIN HT hty h01;obtain ⟨A3,h3⟩:∃x,bh.A3=x:=⟨_,rfl⟩;rw [h3] at HS HK ⊢;clear h3;obtain ⟨bb,oo,rfl,hbb,hx⟩:=HS.out.sl.at_ hf;have HF2:Hid (q=decide (ko=b.types[f].kind)):=aH (by rw [HF.out,kindT];simp [hf]);generalize b.types[f]=ty at hx HF2;obtain ⟨r1,-⟩:=hx;clear HS HF;have HB1:=aH (fun (W:World) (h:Below w.heap.size w W)=>h.drew);go_enter Tryz.func156,Tryz.ntmps156
  go_wp2_with fail
  have HB2:=aH (HB1.out _ (bel2 w (.cells #[.string b.name,.slice bh.A1 b.regions.length bh.c1,.slice bh.A2 b.outl.length bh.c2,.slice (some ⟨bb,oo,none⟩) b.types.length bh.c3,.slice bh.A4 b.locals.length bh.c4,.int .i64 b.args,.slice bh.A5 b.blocks.length bh.c5,.pointer (some ⟨r,0,none⟩)] 134) (.cells #[.int .i64 o.kind,.int .i64 o.place.loc,.slice A o.place.proj.length c,.int .i64 o.n] 121)));obtain ⟨y,z⟩:=dD (w:=w) (l1:=[.string b.name,.slice bh.A1 b.regions.length bh.c1,.slice bh.A2 b.outl.length bh.c2,.slice (some ⟨bb,oo,none⟩) b.types.length bh.c3,.slice bh.A4 b.locals.length bh.c4,.int .i64 b.args,.slice bh.A5 b.blocks.length bh.c5,.pointer (some ⟨r,0,none⟩)]) (l2:=[.int .i64 o.kind,.int .i64 o.place.loc,.slice A o.place.proj.length c,.int .i64 o.n]) (t1:=134) (t2:=121) ((aZ _ _).drew);have hS:=bM y (bM z (cQ HB2.out r1));clear y z;refine cZ (S:=fun X=>(aD [.string b.name,.slice bh.A1 b.regions.length bh.c1,.slice bh.A2 b.outl.length bh.c2,.slice (some ⟨bb,oo,none⟩) b.types.length bh.c3,.slice bh.A4 b.locals.length bh.c4,.int .i64 b.args,.slice bh.A5 b.blocks.length bh.c5,.pointer (some ⟨r,0,none⟩)] X w.heap.size)/\(aD [.int .i64 o.kind,.int .i64 o.place.loc,.slice A o.place.proj.length c,.int .i64 o.n] X (w.heap.size+1))/\X.cell? ⟨bb,oo+f * 5,none⟩=some (.int .i64 ty.kind)) [0,1,3,4,5,6,7,8,9,2,10,11] (by kernel_rfl) ?_;(iterate 9 (refine cY (v:=?_) ?_ hS ?_;rotate_left;(next=>(rintro X ⟨hX,hY,hZ⟩;obtain ⟨s0,s1,s2,s3,s4,s5,s6,s7⟩:=aV hX;obtain ⟨u0,u1,u2,u3⟩:=aR hY;(try simp only [aK]);go_simp;rfl));simp only [aO]));(refine cX (fun K1 hK1=>?_);simp only [aO];rw [bD (by rfl)];go_simp);refine (HK.out _ HB2.out).mono ?_;rintro e' w2 ⟨rfl,hb⟩;replace hS:=bM (fun i v hi=>cQ hb (hS.1 i v hi)) (bM (fun i v hi=>cQ hb (hS.2.1 i v hi)) (cQ hb hS.2.2));have HB3:=aH (HB2.out.trans (hb.mono HB2.out.size));clear hb;refine hK1.out _ _ (fun _=>hS) ?_;(iterate 2 (refine cY (v:=?_) ?_ hS ?_;rotate_left;(next=>(rintro X -;(try simp only [aK]);go_simp;rfl));simp only [aO]));refine dI ?_;go_wp2_with fail
  go_ret;exact ⟨by rw [HF2.out];rfl,HB3.out⟩
end
section
open Go Go.RowKit Go.Maps
def OwnI (w:World) (b n:Nat) (sl:List Int):Prop:=
 ∃D:DataW Unit,w.ownsMap Tryz.prog 3 (plainElem Tryz.prog 4) b n D/\(∀kl,D.atKey kl (.lit (.bool false)) = .lit (.bool (i64F (inF sl) kl)))/\∀kl,Maps.has D kl=i64F (inF sl) kl
section
variable {w:World} {b n:Nat} {sl:List Int}
theorem OwnI.made (w:World):OwnI (w.alloc (.map #[] 0)) w.heap.size 0 []:=
 ⟨.map [],World.ownsMap_made w _ _ _,fun kl=>by rw [nN];rfl,fun kl=>by rw [nN];rfl⟩
theorem OwnI.toB (h:OwnI w b n sl):OwnB Tryz.prog 3 4 w b n (i64F (inF sl)):=by
 obtain ⟨D,h1,h2,_⟩:=h;exact ⟨D,h1,h2⟩
theorem OwnI.lt (h:OwnI w b n sl):b<w.heap.size:=h.toB.lt
theorem OwnI.block {w':World} (h:OwnI w b n sl) (hb:w'.heap[b]?=w.heap[b]?):OwnI w' b n sl:=by
 obtain ⟨D,⟨es,clock,h1,h3,h4,h5⟩,h2⟩:=h;exact ⟨D,⟨es,clock,hb.trans h1,h3,h4,h5⟩,h2⟩
theorem OwnI.below {w':World} (h:OwnI w b n sl) (hb:Below w.heap.size w w'):OwnI w' b n sl:=h.block (hb.block b h.lt)
theorem OwnI.alloc (h:OwnI w b n sl) (o:Obj):OwnI (w.alloc o) b n sl:=h.below ((aZ _ _).alloc (bA _) _)
theorem OwnI.mono {m:Nat} (h:OwnI w b n sl) (hm:n<=m):OwnI w b m sl:=by
 obtain ⟨D,h1,h2⟩:=h;exact ⟨D,h1.mono hm,h2⟩
theorem OwnI.store (h:OwnI w b n sl) (hn:n<maxLen) {x:Int} (hkey:keyOf Tryz.prog 3 (.int .i64 x)=some (.int .i64 x)):
 ∃w',(Instr.mapUpdate 198 (.map (some b)) (.int .i64 x) (.bool true)).run Tryz.prog w = .ok () w'/\OwnI w' b (n+1) (x :: sl)/\w.grownBy w' (some b):=by
 obtain ⟨D,h1,h2,h3⟩:=h;obtain ⟨w',hrun,g1,g2⟩:=h1.update law3 Tryz.underlying198 hn hkey (fS Tryz.underlying4 true);have hk:WideAt.IsKeyLit (Lit.int .i64 x):=trivial;refine ⟨w',hrun,⟨_,g1,fun kl=>?_,fun kl=>?_⟩,g2⟩
 ·by_cases e:kl=Lit.int .i64 x
  ·subst e;rw [atKey_put_same h1.isMap hk,fI]
  ·rw [atKey_put_other e,fW _ _ _ e,h2]
 ·by_cases e:kl=Lit.int .i64 x
  ·subst e;rw [has_put_same h1.isMap hk,fI]
  ·rw [has_put_other e,fW _ _ _ e,h3]
end
theorem dW (w:World) {ops:Array Oper} {rest:List Oper} {o:Oper} {a:Act} {Q:Exit->Act->World->Prop}
 (hg:o.guard=none) (m x v:Operand) (hop:o.op=Op.mapUpdate 198 m x v) (b n:Nat) (sl:List Int)
 (hm:a.eval m = .map (some b)) (hown:OwnI w b n sl) (hn:n<maxLen) (key:Int) (hx:a.eval x = .int .i64 key) (hv:a.eval v = .bool true) (hkey:keyOf Tryz.prog 3 (.int .i64 key)=some (.int .i64 key))
 (hK:∀w',OwnI w' b (n+1) (key :: sl)->w.grownBy w' (some b)->wpList Tryz.prog ops Q rest (a.put o.dst undef) w'):
 wpList Tryz.prog ops Q (o :: rest) a w:=by
 refine wpList_plain hg fun K' hK'=>?_
 obtain ⟨w',hrun,r1,r2⟩:=hown.store hn hkey;unfold Oper.wp;simp [execOp,hop,hm,hx,hv,hrun,Result.andThen];exact hK' _ _ (hK w' r1 r2)
def RngI (w:World) (b r n:Nat) (sl:List Int) (left:Int->Bool) (cnt:Nat):Prop:=
 ∃D:DataW Unit,∃lf:Lit->Bool,w.ranges Tryz.prog 3 (plainElem Tryz.prog 4) b r n D lf cnt/\(∀kl,Maps.has D kl=i64F (inF sl) kl)/\(∀x,lf (.int .i64 x)=left x)/\∀kl,lf kl=true->∃x,kl = .int .i64 x
section
variable {w:World} {b r n:Nat} {sl:List Int} {left:Int->Bool} {cnt:Nat}
theorem RngI.kept {w':World} (h:RngI w b r n sl left cnt) (hb:w'.heap[b]?=w.heap[b]?) (hr:w'.heap[r]?=w.heap[r]?):RngI w' b r n sl left cnt:=by
 obtain ⟨D,lf,⟨es,clock,since,seen,c0,g1,F,hs,hD,g2,rest⟩,h2⟩:=h;exact ⟨D,lf,⟨es,clock,since,seen,c0,hb.trans g1,F,hs,hD,hr.trans g2,rest⟩,h2⟩
theorem RngI.left_eq (h:RngI w b r n sl left cnt):w.rangeLeft b r=cnt:=by
 obtain ⟨D,lf,h1,_⟩:=h;exact h1.left_eq
theorem RngI.lt (h:RngI w b r n sl left cnt):r<w.heap.size/\b<w.heap.size/\r≠b:=by
 obtain ⟨D,lf,h1,_⟩:=h;exact ⟨h1.lt,h1.owns.lt,h1.ne⟩
theorem RngI.below {w':World} (h:RngI w b r n sl left cnt) (hb:Below w.heap.size w w'):RngI w' b r n sl left cnt:=h.kept (hb.block b h.lt.2.1) (hb.block r h.lt.1)
end
theorem nC (w:World) {ops:Array Oper} {rest:List Oper} {o:Oper} {a:Act} {Q:Exit->Act->World->Prop} (hg:o.guard=none) (m:Operand) (hop:o.op=Op.range 198 m) (b n:Nat) (sl:List Int)
 (hm:a.eval m = .map (some b)) (hown:OwnI w b n sl)
 (hK:∀w' cnt,RngI w' b w.heap.size n sl (fun x=>decide (x∈sl)) cnt->w.grownBy w' none->w'.heap.size=w.heap.size+1->wpList Tryz.prog ops Q rest (a.put o.dst (.pointer (some ⟨w.heap.size,0,none⟩))) w'):
 wpList Tryz.prog ops Q (o :: rest) a w:=by
 obtain ⟨D,h1,h2,h3⟩:=hown;refine wpList_range_own w hg m 198 hop 3 4 law3 Tryz.underlying198 _ b n D hm h1 (fun w' g1 g2 g3=>hK w' _ ⟨D,_,g1,h3,fun x=>by rw [h3];rfl,fun kl hkl=>?_⟩ g2 g3);rw [h3] at hkl;unfold i64F at hkl;split at hkl
 ·exact ⟨_,rfl⟩
 ·cases hkl
theorem nZ (w:World) {ops:Array Oper} {rest:List Oper} {o:Oper} {a:Act} {Q:Exit->Act->World->Prop} (hg:o.guard=none) (it:Operand) (hop:o.op=Op.next it false) (b r n:Nat) (sl:List Int) (left:Int->Bool) (cnt:Nat)
 (hit:a.eval it = .pointer (some ⟨r,0,none⟩)) (h:RngI w b r n sl left cnt)
 (hDone:(∀x,left x=false)->wpList Tryz.prog ops Q rest (a.put o.dst (.tuple #[.bool false])) w)
 (hMore:∀(x:Int) (c:Bool) (w':World) (cnt':Nat),(Lit.int .i64 x).wf=true->left x=true->x∈sl->RngI w' b r n sl (fun z=>left z && decide (z≠x)) cnt'->cnt'<cnt->
   w.grownBy w' (some r)->w'.heap.size=w.heap.size->(Instr.entry (.pointer (some ⟨r,0,none⟩))).run Tryz.prog w' = .ok (.tuple #[.int .i64 x,.bool c]) w'->wpList Tryz.prog ops Q rest (a.put o.dst (.tuple #[.bool true,.int .i64 x,.bool c])) w'):
 wpList Tryz.prog ops Q (o :: rest) a w:=by
 obtain ⟨D,lf,h1,h2,h3,h4⟩:=h
 refine wpList_next_ranges w hg it hop 3 law3 (plainElem Tryz.prog 4) (Value.int .i64) Value.bool (fun key kl hkey=>by obtain ⟨x,rfl,_⟩:=Maps.keyOf_int_inv Tryz.underlying3 hkey;exact ⟨x,rfl⟩) (fun v y hv=>by obtain ⟨x,rfl,_⟩:=iB Tryz.underlying4 hv;exact ⟨x,rfl⟩)
  b r n D lf cnt hit h1 (fun _ hl=>hDone (fun x=>by rw [<- h3];exact hl _)) (fun x c kl y w' cnt' hkey hlk hv hat hrg hlt hgr hsz hen=>?_)
 obtain ⟨x',e,rfl,hwx⟩:=Maps.keyOf_int_inv Tryz.underlying3 hkey;cases e
 refine hMore x c w' cnt' hwx (by rw [<- h3];exact hlk) ?_ ⟨D,_,hrg,h2,fun z=>?_,fun kl hkl=>h4 kl (by simp at hkl;exact hkl.1)⟩ hlt hgr hsz hen
 ·have:=h2 (.int .i64 x);rw [has_true_of_atKey hat] at this;simpa [i64F,inF] using this.symm
 ·simp [h3,Lit.sameKey]
end
section
open Go Go.RowKit Go.Shelf
attribute [local go_sem] Oper.semAt_some
def encT (t:Tb):Array Value:= #[.agg #[.slice t.A t.xs.length t.c,.int .i64 t.f,.int .i64 t.s]]
theorem eM {N:Nat->Prop} {D:Nat} {T:TypeId->Bool} {A B:World} (h:Kb N D T A B) {p:Addr} {v:Value} (hN:N p.block) (hc:A.cell? p=some v):B.cell? p=some v:=
 (World.cell?_of_block (h.low _ hN (cF A p hc))).trans hc
def Pb (bf bp br:Nat):Nat->Prop:=fun k=>k=bf\/k=bp\/k=br
theorem mF (V:Array Value) (p r:Int) (w:World) (hV:V.size=5) (hE:∃A0 n0 c0 A1 n1 c1 A2 n2 c2 A3 n3 c3 A4 n4 c4,V = #[.slice A0 n0 c0,.slice A1 n1 c1,.slice A2 n2 c2,.slice A3 n3 c3,.slice A4 n4 c4]):
 Calls Tryz.prog 34 #[.agg V,.int .i64 p,.int .i64 r] w fun e' w'=>e' = .returned (.func (.func 68) #[] #[.pointer (some ⟨w.heap.size,0,none⟩),.pointer (some ⟨w.heap.size+1,0,none⟩),.pointer (some ⟨w.heap.size+1+1,0,none⟩)])/\
  w'=((w.alloc (.cells V 25)).alloc (.cells #[.int .i64 p] 3)).alloc (.cells #[.int .i64 r] 3):=by
 obtain ⟨A0,n0,c0,A1,n1,c1,A2,n2,c2,A3,n3,c3,A4,n4,c4,rfl⟩:=hE;clear hV;go_enter Tryz.func34,Tryz.ntmps34
 go_wp2
 go_ret;exact ⟨rfl,rfl⟩
theorem xBG (n:Nat) (hn:1<=n) (A0 A1 A2 A3 A4:Option Addr) (n0 c0 c1 c2 c3 c4:Nat) (x1 x2 x3 x4:List (Int × Int)) (p r:Int) (bf bp br:Nat) (w:World)
 (h0:w.cell? ⟨bf,0,none⟩=some (.slice A0 n0 c0)) (h1:w.cell? ⟨bf,1,none⟩=some (.slice A1 x1.length c1)) (h2:w.cell? ⟨bf,2,none⟩=some (.slice A2 x2.length c2)) (h3:w.cell? ⟨bf,3,none⟩=some (.slice A3 x3.length c3)) (h4:w.cell? ⟨bf,4,none⟩=some (.slice A4 x4.length c4))
 (hp:w.cell? ⟨bp,0,none⟩=some (.int .i64 p)) (hr:w.cell? ⟨br,0,none⟩=some (.int .i64 r)):
 SeqL Fence.wide n Tryz.prog 68 #[.pointer (some ⟨bf,0,none⟩),.pointer (some ⟨bp,0,none⟩),.pointer (some ⟨br,0,none⟩)] encT (fun _=>false) (Pb bf bp br) [⟨A1,x1,c1,p,p⟩,⟨A2,x2,c2,n0,p⟩,⟨A3,x3,c3,n0,p⟩,⟨A4,x4,c4,r,p⟩] w:=by
 intro l J Jx W hW hJ hJx hY hJ0;have g0:=cQ hW h0;have g1:=cQ hW h1;have gp:=cQ hW hp;have G2:=aH (cQ hW h2);have G3:=aH (cQ hW h3);have G4:=aH (cQ hW h4);have GR:=aH (cQ hW hr);clear h0 h1 h2 h3 h4 hp hr;(refine callsIn_of_wp Tryz.func68 rfl trivial ?_ rfl;simp only [Tryz.ntmps68,List.size_toArray,bN,bQ,Nat.reduceAdd,Nat.reduceSub,Array.replicate_succ,Array.replicate_zero,List.push_toArray,List.append_toArray,List.nil_append,List.cons_append]);obtain ⟨fn,tmps,assign,body,hy,hR⟩:=hY [] ⟨A1,x1,c1,p,p⟩ [⟨A2,x2,c2,n0,p⟩,⟨A3,x3,c3,n0,p⟩,⟨A4,x4,c4,r,p⟩] W rfl hJ0;rw [show encT ⟨A1,x1,c1,p,p⟩ = #[.agg #[.slice A1 x1.length c1,.int .i64 p,.int .i64 p]] from rfl] at hy;gi_wp2
 refine hR.mono ?_;clear hy hR;rintro e W1 (⟨rfl,hJ1,hK1⟩ | ⟨rfl,hJx1⟩)
 case inr=>
  gi_wp2
  refine ⟨by simp,?_⟩;gi_wp2
  go_end0
  exact ⟨⟨_,rfl⟩,.inr ⟨[],_,_,rfl,hJx1⟩⟩
 have gp1:=eM hK1 (Or.inr (Or.inl rfl)) gp;have g2:=eM hK1 (Or.inl rfl) G2.out;have G3b:=aH (eM hK1 (Or.inl rfl) G3.out);have G4b:=aH (eM hK1 (Or.inl rfl) G4.out);have GRb:=aH (eM hK1 (Or.inr (Or.inr rfl)) GR.out);clear G2 G3 G4 GR g0 g1 gp hK1 hJ0;obtain ⟨fn,tmps,assign,body,hy,hR⟩:=hY _ ⟨A2,x2,c2,n0,p⟩ [⟨A3,x3,c3,n0,p⟩,⟨A4,x4,c4,r,p⟩] W1 rfl hJ1;rw [show encT ⟨A2,x2,c2,n0,p⟩ = #[.agg #[.slice A2 x2.length c2,.int .i64 n0,.int .i64 p]] from rfl] at hy;gi_wp2
 refine hR.mono ?_;clear hy hR;rintro e W2 (⟨rfl,hJ2,hK2⟩ | ⟨rfl,hJx2⟩)
 case inr=>
  gi_wp2
  refine ⟨by simp,?_⟩;gi_wp2
  go_end0
  exact ⟨⟨_,rfl⟩,.inr ⟨[_],_,_,rfl,hJx2⟩⟩
 have gp2:=eM hK2 (Or.inr (Or.inl rfl)) gp1;have g3:=eM hK2 (Or.inl rfl) G3b.out;have G4c:=aH (eM hK2 (Or.inl rfl) G4b.out);have GRc:=aH (eM hK2 (Or.inr (Or.inr rfl)) GRb.out);clear G3b G4b GRb g2 gp1 hK2 hJ1;obtain ⟨fn,tmps,assign,body,hy,hR⟩:=hY _ ⟨A3,x3,c3,n0,p⟩ [⟨A4,x4,c4,r,p⟩] W2 rfl hJ2;rw [show encT ⟨A3,x3,c3,n0,p⟩ = #[.agg #[.slice A3 x3.length c3,.int .i64 n0,.int .i64 p]] from rfl] at hy;gi_wp2
 refine hR.mono ?_;clear hy hR;rintro e W3 (⟨rfl,hJ3,hK3⟩ | ⟨rfl,hJx3⟩)
 case inr=>
  gi_wp2
  refine ⟨by simp,?_⟩;gi_wp2
  go_end0
  exact ⟨⟨_,rfl⟩,.inr ⟨[_,_],_,_,rfl,hJx3⟩⟩
 have gp3:=eM hK3 (Or.inr (Or.inl rfl)) gp2;have g4:=eM hK3 (Or.inl rfl) G4c.out;have gr:=eM hK3 (Or.inr (Or.inr rfl)) GRc.out;clear G4c GRc g3 gp2 hK3 hJ2;obtain ⟨fn,tmps,assign,body,hy,hR⟩:=hY _ ⟨A4,x4,c4,r,p⟩ [] W3 rfl hJ3;rw [show encT ⟨A4,x4,c4,r,p⟩ = #[.agg #[.slice A4 x4.length c4,.int .i64 r,.int .i64 p]] from rfl] at hy;gi_wp2
 refine hR.mono ?_;clear hy hR;rintro e W4 (⟨rfl,hJ4,_⟩ | ⟨rfl,hJx4⟩)
 ·gi_wp2
  go_end0
  exact ⟨⟨_,rfl⟩,.inl hJ4⟩
 ·gi_wp2
  go_end0
  exact ⟨⟨_,rfl⟩,.inr ⟨[_,_,_],_,_,rfl,hJx4⟩⟩
end
section
open Go Go.RowKit Go.Shelf
attribute [local go_sem] Oper.semAt_some
attribute [local irreducible] Calls
def accT (a:Int):List Nat->Int
 | []=>a
 | t :: ts=>accT (wrap64 (a+t)) ts
theorem pJ (t:Nat):∀(l:List Nat) (a:Int),accT a (l ++ [t])=wrap64 (accT a l+t)
 | [],_=>rfl
 | _ :: l,_=>pJ t l _
def szW (f:Fct):Int:=accT f.loans.length [f.edges.length,f.killed.length,f.inval.length,f.live.length]
def lenT (l:List Tb):List Nat:=l.map (fun t=>t.xs.length)
theorem uR (f:Fct) (fh:FH) (w:World) (H:FcAt w f fh):
 Calls Tryz.prog 16 #[.agg (fcC f fh).toArray] w fun e' w'=>e' = .returned (.int .i64 (szW f))/\Below w.heap.size w w':=by
 obtain ⟨A0,c0,A1,c1,A2,c2,A3,c3,A4,c4⟩:=fh;have l0:=H.ln.le;have l1:=H.ed.le;have l2:=H.ki.le;have l3:=H.iv.le;have l4:=H.li.le;have m0:=H.ln.big;have m1:=H.ed.big;have m2:=H.ki.big;have m3:=H.iv.big;have m4:=H.li.big;simp only at l0 l1 l2 l3 l4 m0 m1 m2 m3 m4;unfold fcC;simp only;refine (callsIn_wide (n:=5)).1 ?_;refine callsIn_of_wp_marks Tryz.func16 rfl trivial ?_ rfl;simp only [Tryz.ntmps16,List.size_toArray,bN,bQ,Nat.reduceAdd,Nat.reduceSub,Array.replicate_succ,Array.replicate_zero,List.push_toArray,List.append_toArray,List.nil_append,List.cons_append];obtain ⟨W1,hW1⟩:∃W1,(w.alloc (.cells #[.slice A0 f.loans.length c0,.slice A1 f.edges.length c1,.slice A2 f.killed.length c2,.slice A3 f.inval.length c3,.slice A4 f.live.length c4] 25)).alloc (.cells #[.int .i64 f.loans.length] 3)=W1:=⟨_,rfl⟩;have hb1:Below w.heap.size w W1:=by rw [<- hW1];exact bel2 _ _ _
 have hz1:W1.heap.size=w.heap.size+1+1:=by rw [<- hW1];simp
 have hn1:W1.heap[w.heap.size+1]?=some (.cells #[.int .i64 f.loans.length] 3 (0,0)):=by
  rw [<- hW1];have:=heap_alloc_new (w.alloc (.cells #[.slice A0 f.loans.length c0,.slice A1 f.edges.length c1,.slice A2 f.killed.length c2,.slice A3 f.inval.length c3,.slice A4 f.live.length c4] 25)) (.cells #[.int .i64 f.loans.length] 3);rwa [bK] at this
 have hx:=cT w [Value.slice A0 f.loans.length c0,.slice A1 f.edges.length c1,.slice A2 f.killed.length c2,.slice A3 f.inval.length c3,.slice A4 f.live.length c4] 25;have hal:=alF (w.alloc (.cells #[.slice A0 f.loans.length c0,.slice A1 f.edges.length c1,.slice A2 f.killed.length c2,.slice A3 f.inval.length c3,.slice A4 f.live.length c4] 25)) (.cells #[.int .i64 f.loans.length] 3);rw [hW1] at hal;have x0:=cQ hal (hx 0 _ rfl);have x1:=cQ hal (hx 1 _ rfl);have x2:=cQ hal (hx 2 _ rfl);have x3:=cQ hal (hx 3 _ rfl);have x4:=cQ hal (hx 4 _ rfl);have HB1:=aH hb1;have HN1:=aH hn1;have HZ1:=aH hz1;clear hx hal hb1 hn1 hz1;gi_wp2_with (refine ⟨trivial,?_⟩;gi_at_call 34;refine (callsIn_wide.2 (mF #[.slice A0 f.loans.length c0,.slice A1 f.edges.length c1,.slice A2 f.killed.length c2,.slice A3 f.inval.length c3,.slice A4 f.live.length c4] _ _ _ rfl ⟨_,_,_,_,_,_,_,_,_,_,_,_,_,_,_,rfl⟩)).mono ?_;rintro e' w' ⟨rfl,rfl⟩)
 obtain ⟨W0,hW0⟩:∃W0,((W1.alloc (.cells #[.slice A0 f.loans.length c0,.slice A1 f.edges.length c1,.slice A2 f.killed.length c2,.slice A3 f.inval.length c3,.slice A4 f.live.length c4] 25)).alloc (.cells #[.int .i64 0] 3)).alloc (.cells #[.int .i64 0] 3)=W0:=⟨_,rfl⟩;rw [hW0];have hb0:Below W1.heap.size W1 W0:=by rw [<- hW0];exact aJ
 have hz0:W0.heap.size=W1.heap.size+1+1+1:=by subst hW0;simp
 have u0:W0.cell? ⟨W1.heap.size,0,none⟩=some (.slice A0 f.loans.length c0):=by subst hW0;clear hW1;go_simp
 have u1:W0.cell? ⟨W1.heap.size,1,none⟩=some (.slice A1 f.edges.length c1):=by subst hW0;clear hW1;go_simp
 have u2:W0.cell? ⟨W1.heap.size,2,none⟩=some (.slice A2 f.killed.length c2):=by subst hW0;clear hW1;go_simp
 have u3:W0.cell? ⟨W1.heap.size,3,none⟩=some (.slice A3 f.inval.length c3):=by subst hW0;clear hW1;go_simp
 have u4:W0.cell? ⟨W1.heap.size,4,none⟩=some (.slice A4 f.live.length c4):=by subst hW0;clear hW1;go_simp
 have up:W0.cell? ⟨W1.heap.size+1,0,none⟩=some (.int .i64 0):=by subst hW0;clear hW1;go_simp
 have ur:W0.cell? ⟨W1.heap.size+1+1,0,none⟩=some (.int .i64 0):=by subst hW0;clear hW1;go_simp
 have hseq:=xBG (5 - 1) (by omega) A0 A1 A2 A3 A4 f.loans.length c0 c1 c2 c3 c4 f.edges f.killed f.inval f.live 0 0 _ _ _ W0 u0 u1 u2 u3 u4 up ur;have hn0:=(hb0.block _ (Array.getElem?_eq_some_iff.1 HN1.out).1).trans HN1.out;have hlow:=HB1.out.trans (hb0.mono HB1.out.size);obtain ⟨TS,hTS⟩:∃TS:List Tb,[⟨A1,f.edges,c1,0,0⟩,⟨A2,f.killed,c2,f.loans.length,0⟩,⟨A3,f.inval,c3,f.loans.length,0⟩,⟨A4,f.live,c4,0,0⟩]=TS:=⟨_,rfl⟩;rw [hTS] at hseq
 have HTL:Hid (accT f.loans.length (lenT TS)=szW f/\∀t∈TS,t.xs.length<=t.c/\t.c<=9223372036854775807):=aH (by
  rw [<- hTS];refine ⟨rfl,fun t ht=>?_⟩;simp only [cM,List.not_mem_nil,or_false] at ht
  rcases ht with rfl | rfl | rfl | rfl <;> exact ⟨by assumption,by assumption⟩)
 have HZ0:Hid (W0.heap.size=w.heap.size+1+1+1+1+1/\W1.heap.size=w.heap.size+1+1):=aH (by have:=HZ1.out;omega);clear hW0 hb0 hz0 u0 u1 u2 u3 u4 up ur hW1 x0 x1 x2 x3 x4 HB1 HN1 HZ1 hTS H
 refine fD rfl (by omega) (gf:=68) (lb:= #[.pointer (some ⟨W1.heap.size,0,none⟩),.pointer (some ⟨W1.heap.size+1,0,none⟩),.pointer (some ⟨W1.heap.size+1+1,0,none⟩)]) rfl trivial (enters_of Tryz.func68 (by kernel_rfl) rfl)
  hseq (aZ _ _) (by have:=HZ0.out;rintro k (rfl | rfl | rfl) <;> omega) (fun _=>rfl)
  (fun pre X=>X.heap[w.heap.size+1]?=some (.cells #[.int .i64 (accT f.loans.length (lenT pre))] 3 (0,0))/\Below w.heap.size w X)
  (fun _ _ _=>False)
  (fun s A B hs ht=>⟨ht.block_low (by have:=HZ0.out;omega) hs.1,ht.below (by have:=HZ0.out;omega) hs.2.size hs.2⟩) (fun _ _ _ _ hs _=>hs)
  ⟨hn0,hlow⟩ ?round ?done ?stop
 case stop=>exact fun _ _ _ _ _ _ _ _ h _=>h.elim
 case round=>
  rintro lr pre ⟨tA,txs,tc,tf,ts⟩ post W hL hlr ⟨rr,hr⟩ hWs ⟨hb,hB⟩;have HMT:=aH (HTL.out.2 ⟨tA,txs,tc,tf,ts⟩ (by rw [hL];simp));have htl:accT f.loans.length (lenT (pre ++ [⟨tA,txs,tc,tf,ts⟩]))=wrap64 (accT f.loans.length (lenT pre)+txs.length):=by unfold lenT;rw [bV];exact pJ _ _ _
  have HTLE:=aH htl;have g1:=HMT.out.1;have g2:=HMT.out.2;simp only at g1 g2;clear hL hseq hn0 hlow HMT htl;generalize accT f.loans.length (lenT pre)=ac at *;simp only [encT,List.zip_toArray,List.zip_cons_cons];gi_wp2
  refine ⟨(Kb.refl _ _ _ _).alloc _,fun W2 hrec=>?_⟩;have hb2:=hrec.cells (((alF W (.cells #[.slice tA txs.length tc,.int .i64 tf,.int .i64 ts] 66)).block _ (Array.getElem?_eq_some_iff.1 hb).1).trans hb);have y0:=hrec.cell (cT W [.slice tA txs.length tc,.int .i64 tf,.int .i64 ts] 66 0 _ rfl);have hB2:Below w.heap.size w W2:=(hB.alloc hB.size (.cells #[.slice tA txs.length tc,.int .i64 tf,.int .i64 ts] 66)).trans ⟨hrec.os,hrec.tape,hrec.output,by rw [hrec.size];exact bA _,fun k hk=>hrec.block k (by have:=HZ0.out;omega)⟩;have n0:=cR (l:=[.int .i64 ac]) hb2 0 _ rfl;have nf:W2.frozen? ⟨w.heap.size+1,0,none⟩=false:=by simp [World.frozen?,hb2]
  have HB2:=aH hB2;have HH2:=aH hb2;clear hb2 hB2 hb hB hr hrec;gi_wp2
  refine ⟨(Kb.refl _ _ _ _).setLow (p:=⟨w.heap.size+1,0,none⟩) _ (by have:=HZ0.out;simp only [Pb];omega) (by have:=HZ0.out;simp only;omega),?_,HB2.out.setCell (p:=⟨w.heap.size+1,0,none⟩) (by simp only;omega) _⟩;rw [HTLE.out];exact gF HH2.out
 case done=>
  rintro D W hD ⟨hb,hB⟩ hK;have HE:=aH HTL.out.1;have y0:=cR (l:=[.int .i64 (accT f.loans.length (lenT TS))]) hb 0 _ rfl;rw [HE.out] at y0;clear hseq hn0 hlow hb;gi_wp2
  refine ⟨by simp,.inl ⟨_,_,rfl,run_takeDeferred (w:=W) hK,?_⟩⟩;exact ⟨_,results_tmp rfl _ _ _,rfl,below_put hB (by have:=HZ0.out;omega)⟩
end
section
open Go Go.RowKit
attribute [local irreducible] Calls
theorem xDY (f:Fct) (fh:FH) (w:World) (H:FcAt w f fh):
 Calls Tryz.prog 10 #[.agg (fcC f fh).toArray] w fun e' w'=>(∃q:Int,e' = .returned (.int .i64 q))/\Below w.heap.size w w':=by
 obtain ⟨A0,c0,A1,c1,A2,c2,A3,c3,A4,c4⟩:=fh;have HLN:=aH H.ln;have l0:=H.ln.le;have l1:=H.ed.le;have l2:=H.ki.le;have l3:=H.iv.le;have l4:=H.li.le;have m0:=H.ln.big;have m1:=H.ed.big;have m2:=H.ki.big;have m3:=H.iv.big;have m4:=H.li.big;simp only at l0 l1 l2 l3 l4 m0 m1 m2 m3 m4;clear H;unfold fcC;simp only;go_enter Tryz.func10,Tryz.ntmps10
 obtain ⟨W0,hW0⟩:∃W0,w.alloc (.cells #[.slice A0 f.loans.length c0,.slice A1 f.edges.length c1,.slice A2 f.killed.length c2,.slice A3 f.inval.length c3,.slice A4 f.live.length c4] 25)=W0:=⟨_,rfl⟩;have hb0:=alF w (.cells #[.slice A0 f.loans.length c0,.slice A1 f.edges.length c1,.slice A2 f.killed.length c2,.slice A3 f.inval.length c3,.slice A4 f.live.length c4] 25);have hx:=cT w [Value.slice A0 f.loans.length c0,.slice A1 f.edges.length c1,.slice A2 f.killed.length c2,.slice A3 f.inval.length c3,.slice A4 f.live.length c4] 25;rw [hW0] at hb0 hx;have x0:=hx 0 _ rfl;have x1:=hx 1 _ rfl;have x2:=hx 2 _ rfl;have x3:=hx 3 _ rfl;have x4:=hx 4 _ rfl;have HB0:=aH hb0;clear hx hb0;go_upto_region 1 with fail
 go_cut [3] (fun v wx=>∃m:Int,v = .int .i64 m/\wx=W0)
 case first=>
  clear l0 l1 l2 l3 l4 m0 m1 m2 m3 m4;go_wp2_with fail
  go_meet;exact ⟨_,rfl,rfl⟩
 case rest=>
 obtain ⟨m0',rfl,rfl⟩:=hcut;go_wp2_with fail
 all_goals first
  | (go_ret;exact ⟨⟨_,rfl⟩,HB0.out⟩)
  | skip
 all_goals
  go_loopw [3,32] (fun n i wr=>∃(k:Nat) (m:Int),n = .int .i64 m/\i = .int .i64 k/\k<=f.loans.length/\Hid (Below w.heap.size w wr)) (fun _ i _=>f.loans.length - (intOf i).toNat)
  case atStart=>exact ⟨0,_,rfl,rfl,by omega,HB0⟩
  case round=>
   obtain ⟨k,m,rfl,rfl,hk,HB⟩:=hrel;by_cases hlt:k<f.loans.length
   case neg=>
    go_wp2_with fail
    go_ret;exact ⟨⟨_,rfl⟩,HB.out⟩
   case pos=>
   obtain ⟨b,o,rfl,hb,g0,g1,g2,g3,PA,pc,g4,p1,p2,-⟩:=(HLN.out.keep RLn.keeps HB.out).sl.at_ hlt;generalize f.loans[k]=l at *;obtain ⟨lr,lp,mu,ll,lj⟩:=l;simp only at g0 g1 g2 g3 g4 p1;have HB1:=aH (HB.out.trans ((alF wr (.cells #[.int .i64 lr,.int .i64 lp,.bool mu,.int .i64 ll,.slice PA lj.length pc] 38)).mono HB.out.size));go_wp2_with fail
   all_goals first
    | (go_ret;exact ⟨⟨_,rfl⟩,HB1.out⟩)
    | (go_roundw
       case rel=>exact ⟨k+1,_,rfl,by go_num,by omega,HB1⟩
       case measure=>first | (simp [intOf];done) | (simp [intOf];omega))
end
section
open Go Go.RowKit
theorem iG (n l:Int) (w:World):Calls Tryz.prog 35 #[.int .i64 n,.int .i64 l] w fun e' w'=>e' = .returned (.bool (decide (0<=n/\n<l)))/\w'=w:=by
 obtain ⟨R,hR⟩:∃R,decide (0<=n/\n<l)=R:=⟨_,rfl⟩;rw [hR];have HR:=aH hR;clear hR;go_enter Tryz.func35,Tryz.ntmps35
 go_wp2_with fail
 all_goals (go_ret;refine ⟨?_,rfl⟩;rw [<- HR.out];simp;try omega)
theorem vV (l:List Ln) (p r:Int) (A:Option Addr) (c:Nat) (w:World) (hs:Slc 5 RLn w A c l):
 Calls Tryz.prog 33 #[.slice A l.length c,.int .i64 p,.int .i64 r] w fun e' w'=>e' = .returned (.int .i64 (losE p r none l))/\Below w.heap.size w w':=by
 have hle:=hs.le;have hbig:=hs.big;obtain ⟨R,hR⟩:∃R,losE p r none l=R:=⟨_,rfl⟩;rw [hR];have HR:=aH hR;have HS:=aH hs;clear hR hs;go_enter Tryz.func33,Tryz.ntmps33
 go_wp2_with fail
 go_loopw [6,12] (fun e v wr=>∃k:Nat,k<=l.length/\e = .int .i64 0/\v = .int .i64 k/\Hid (Below w.heap.size w wr)/\Hid (R=losE p r (prevL l k) (l.drop k))) (fun _ v _=>l.length - (intOf v).toNat)
 case atStart=>exact ⟨0,by omega,rfl,rfl,aH (aZ _ _),aH HR.out.symm⟩
 case round=>
  obtain ⟨k,hk,rfl,rfl,hB,hr⟩:=hrel;by_cases hlt:k<l.length
  case neg=>
   have HN:Hid (R=0):=aH (by rw [hr.out,bG (by omega)];rfl);clear hr;go_wp2_with fail
   go_ret;exact ⟨by rw [HN.out];rfl,hB.out⟩
  case pos=>
  have hd:=dA hlt;have hsl:=(HS.out.keep RLn.keeps hB.out).sl;obtain ⟨b,o,rfl,hb,hx⟩:=hsl.at_ hlt;have HP:Hid (prevL l (k+1)=some l[k]):=aH (by unfold prevL;rw [bB (by omega)];simp [hlt])
  have HQ:Hid (∀j,k=j+1->∃q,prevL l k=some q/\RLn wr wr.heap.size b (o+j * 5) q):=aH (fun j hj=>by
   obtain ⟨b',o',hbo,_,hz⟩:=hsl.at_ (show j<l.length by omega);obtain ⟨rfl,rfl⟩:b=b'/\o=o':=by simpa using hbo
   exact ⟨l[j],by unfold prevL;rw [bB (by omega),show k - 1=j by omega];exact bF (by omega),hz⟩)
  obtain ⟨x,hp⟩:∃x,l[k]=x:=⟨_,rfl⟩;rw [hp] at hd hx HP;obtain ⟨x0,x1,x2,x3,PA,pc,x4,p1,p2,p3⟩:=hx;have HN:Hid (R=if loE p r (prevL l k) x=0 then losE p r (some x) (l.drop (k+1)) else loE p r (prevL l k) x):=aH (by rw [hr.out,hd,oZ]);have HSP:Hid (Slc 2 RPj wr PA pc x.place.proj):=aH ⟨p3,p1,p2⟩;have hsz:=hB.out.size;obtain ⟨xr,xp,xm,xl,xj⟩:=x;simp only at x0 x1 x2 x3 x4 p1 HSP;obtain ⟨W1,hW1⟩:∃W,wr.alloc (.cells #[.int .i64 xr,.int .i64 xp,.bool xm,.int .i64 xl,.slice PA xj.length pc] 38)=W:=⟨_,rfl⟩;have hbW:Below wr.heap.size wr W1:=by rw [<- hW1];exact (aZ _ _).alloc (bA _) _
  have HBW:=aH (hB.out.trans (hbW.mono hsz));have n0:=cT wr [.int .i64 xr,.int .i64 xp,.bool xm,.int .i64 xl,.slice PA xj.length pc] 38;simp only [hW1] at n0;have n0r:=n0 0 _ rfl;have n0p:=n0 1 _ rfl;have n0m:=n0 2 _ rfl;have n0l:=n0 3 _ rfl;have n0j:=n0 4 _ rfl;clear hd hr hsl hp p1 p3;by_cases h1:0<=xr/\xr<r
  case neg=>
   have HF:Hid (R=3):=aH (by rw [HN.out,lS (by simp only;omega)];rfl);have e1:decide (0<=xr/\xr<r)=false:=decide_eq_false h1;clear HN h1 n0;go_wp2_with (go_at_call 35;refine (iG _ _ _).mono ?_;rw [e1];rintro e' w1 ⟨rfl,hw⟩;obtain rfl:=hw.symm)
   go_ret;exact ⟨by rw [HF.out];rfl,HBW.out⟩
  case pos=>
  have e1:decide (0<=xr/\xr<r)=true:=decide_eq_true h1;by_cases h2:0<=xp/\xp<p
  case neg=>
   have HF:Hid (R=3):=aH (by rw [HN.out,lS (by simp only;omega)];rfl);have e2:decide (0<=xp/\xp<p)=false:=decide_eq_false h2;clear HN h1 h2 n0;go_wp2_with (go_at_call 35;refine (iG _ _ _).mono ?_;(first | rw [e1] | rw [e2]);rintro e' w1 ⟨rfl,hw⟩;obtain rfl:=hw.symm)
   go_ret;exact ⟨by rw [HF.out];rfl,HBW.out⟩
  case pos=>
  have e2:decide (0<=xp/\xp<p)=true:=decide_eq_true h2;have hrg:¬(xr<0\/r<=xr\/xp<0\/p<=xp):=by omega
  have HC:=aH (iI xl PA pc xj W1 (HSP.out.keep RPj.keeps hbW));by_cases hck:chk xl xj=0
  case neg=>
   have HF:Hid (R=chk xl xj):=aH (by rw [HN.out,vW hrg hck,bB hck]);have e3:(chk xl xj != 0)=true:=by simp [hck]
   generalize chk xl xj=ck at *;clear HN h1 h2 n0 hrg hck
   go_wp2_with (first
    | (go_at_call 35;refine (iG _ _ _).mono ?_;(first | rw [e1] | rw [e2]);rintro e' w1 ⟨rfl,hw⟩;obtain rfl:=hw.symm)
    | (go_at_call 67;refine HC.out.mono ?_;rintro e' w1 ⟨rfl,hw⟩))
   go_ret;exact ⟨by rw [HF.out];rfl,HBW.out.trans (hw.mono HBW.out.size)⟩
  case pos=>
  have e3:(chk xl xj != 0)=false:=by simp [hck]
  rw [hck] at HC e3;rcases (show k=0\/∃j,k=j+1 from by cases k;exact .inl rfl;exact .inr ⟨_,rfl⟩) with rfl | ⟨j,rfl⟩
  ·have HF:Hid (R=losE p r (prevL l 1) (l.drop 1)):=aH (by rw [HN.out,show prevL l 0=none from rfl,rW hrg hck,bD rfl,HP.out]);clear HN h1 h2 n0 hrg hck;simp only [Nat.zero_mul,Nat.add_zero] at x0 x1 x2 x3 x4
   go_wp2_with (first
    | (go_at_call 35;refine (iG _ _ _).mono ?_;(first | rw [e1] | rw [e2]);rintro e' w1 ⟨rfl,hw⟩;obtain rfl:=hw.symm)
    | (go_at_call 67;refine HC.out.mono ?_;rintro e' w2 ⟨rfl,hw⟩))
   have hS:True:=trivial;refine eC (S:=fun _=>True) (by kernel_rfl) ?_;(iterate 3 (refine dG (v:=?_) (by kernel_rfl) (fun _ _ _ h=>h) (Or.inl ⟨by rfl,?_⟩) hS ?_;rotate_left;(next=>(rintro X _;(try simp only [aL]);go_simp;rfl));simp only [aL,Act.put,aM]));(iterate 9 (refine dG (v:=undef) (by kernel_rfl) (fun _ _ _ h=>h) (Or.inr ⟨by rfl,rfl⟩) hS ?_;simp only [aL,Act.put,aM]));((refine dG (v:=?_) (by kernel_rfl) (fun _ _ _ h=>h) (Or.inl ⟨by rfl,?_⟩) hS ?_;rotate_left;(next=>(rintro X _;(try simp only [aL]);go_simp;rfl));simp only [aL,Act.put,aM]))
   refine eO rfl ?_;go_wp2_with fail
   go_roundw
   case rel=>exact ⟨1,by omega,rfl,by go_num,aH (HBW.out.trans (hw.mono HBW.out.size)).drew,HF⟩
   case measure=>simp [intOf];omega
  ·obtain ⟨q,hq,q0,q1,-⟩:=HQ.out j rfl
   have HF:Hid (R=if xp<=q.pt then 21 else losE p r (prevL l (j+1+1)) (l.drop (j+1+1))):=aH (by
    rw [HN.out,hq,rV hrg hck,HP.out]
    split <;> simp)
   have HQ1:Hid (∀W,Below W1.heap.size W1 W->W.cell? ⟨b,o+j * 5+1,none⟩=some (.int .i64 q.pt)):=aH (fun W h=>cQ h ((hbW.cell (p:=⟨b,o+j * 5+1,none⟩) hb).trans q1));have HN1:Hid (∀W,Below W1.heap.size W1 W->W.cell? ⟨wr.heap.size,1,none⟩=some (.int .i64 xp)):=aH (fun W h=>cQ h n0p);generalize q.pt=qp at HF HQ1;clear HN h1 h2 n0 hrg hck hq q0 q1;have hwk:IntKind.i64.wrap (j:Int)=(j:Int):=by rw [IntKind.wrap_i64];omega
   have hj1:(j:Int)<(l.length:Int):=by omega
   go_wp2_with (first
    | (go_at_call 35;refine (iG _ _ _).mono ?_;(first | rw [e1] | rw [e2]);rintro e' w1 ⟨rfl,hw⟩;obtain rfl:=hw.symm)
    | (go_at_call 67;refine HC.out.mono ?_;rintro e' w2 ⟨rfl,hw⟩))
   have hS:w2.drew.cell? ⟨b,o+j * 5+1,none⟩=some (.int .i64 qp)/\w2.drew.cell? ⟨wr.heap.size,1,none⟩=some (.int .i64 xp):=⟨HQ1.out _ hw.drew,HN1.out _ hw.drew⟩;refine eC (S:=fun X=>X.cell? ⟨b,o+j * 5+1,none⟩=some (.int .i64 qp)/\X.cell? ⟨wr.heap.size,1,none⟩=some (.int .i64 xp)) (by kernel_rfl) ?_;(iterate 13 (refine dG (v:=?_) (by kernel_rfl) (fun _ _ _ h=>h) (Or.inl ⟨by rfl,?_⟩) hS ?_;rotate_left;(next=>(rintro X ⟨s1,s2⟩;(try simp only [aL]);go_simp;rfl));simp only [aL,Act.put,aM]));refine eO rfl ?_;by_cases hcm:xp<=qp
   ·have HF':Hid (R=21):=aH (by rw [HF.out,bD hcm]);have hd1:decide (xp<=qp)=true:=decide_eq_true hcm;clear HF;go_wp2_with fail
    go_ret;exact ⟨by rw [HF'.out];rfl,(HBW.out.trans (hw.mono HBW.out.size)).drew⟩
   ·have HF':Hid (R=losE p r (prevL l (j+1+1)) (l.drop (j+1+1))):=aH (by rw [HF.out,bB hcm]);have hd1:decide (xp<=qp)=false:=decide_eq_false hcm;clear HF;go_wp2_with fail
    go_roundw
    case rel=>exact ⟨j+1+1,by omega,rfl,by go_num,aH (HBW.out.trans (hw.mono HBW.out.size)).drew,HF'⟩
    case measure=>simp [intOf];omega
theorem jZ (l:List (Int × Int)) (f s:Int) (A:Option Addr) (c:Nat) (w:World) (hs:Slc 2 RPr w A c l):
 Calls Tryz.prog 38 #[.slice A l.length c,.int .i64 f,.int .i64 s] w fun e' w'=>e' = .returned (.int .i64 (prsE f s none l))/\w'=w:=by
 have hle:=hs.le;have hbig:=hs.big;obtain ⟨R,hR⟩:∃R,prsE f s none l=R:=⟨_,rfl⟩;rw [hR];have HR:=aH hR;have HS:=aH hs.sl;clear hR hs;go_enter Tryz.func38,Tryz.ntmps38
 go_wp2_with fail
 go_loopw [6,7,8,9] (fun e v _ _ wr=>∃k:Nat,k<=l.length/\e = .int .i64 0/\v = .int .i64 k/\wr=w/\Hid (R=prsE f s (prevL l k) (l.drop k))) (fun _ v _ _ _=>l.length - (intOf v).toNat)
 case atStart=>exact ⟨0,by omega,rfl,rfl,rfl,aH HR.out.symm⟩
 case round=>
  obtain ⟨k,hk,rfl,rfl,rfl,hr⟩:=hrel;by_cases hlt:k<l.length
  case neg=>
   have HN:Hid (R=0):=aH (by rw [hr.out,bG (by omega)];rfl);clear hr;go_wp2_with fail
   go_ret;exact ⟨by rw [HN.out];rfl,rfl⟩
  case pos=>
  obtain ⟨b,o,rfl,hb,hx⟩:=HS.out.at_ hlt;have HP:Hid (prevL l (k+1)=some l[k]):=aH (by unfold prevL;rw [bB (by omega)];simp [hlt])
  have HQ:Hid (∀j,k=j+1->∃q,prevL l k=some q/\RPr wr wr.heap.size b (o+j * 2) q):=aH (fun j hj=>by
   obtain ⟨b',o',hbo,_,hz⟩:=HS.out.at_ (show j<l.length by omega);obtain ⟨rfl,rfl⟩:b=b'/\o=o':=by simpa using hbo
   exact ⟨l[j],by unfold prevL;rw [bB (by omega),show k - 1=j by omega];exact bF (by omega),hz⟩)
  have HN:Hid (R=if prE f s (prevL l k) l[k]=0 then prsE f s (some l[k]) (l.drop (k+1)) else prE f s (prevL l k) l[k]):=aH (by rw [hr.out,dA hlt,oN]);obtain ⟨x,hxe⟩:∃x,l[k]=x:=⟨_,rfl⟩;rw [hxe] at hx HP HN;obtain ⟨p1,p2⟩:=x;obtain ⟨x0,x1⟩:=hx;simp only at x0 x1;clear hr hxe;by_cases hrg:p1<0\/f<=p1\/p2<0\/s<=p2
  case pos=>
   have HF:Hid (R=3):=aH (by rw [HN.out,lG hrg];rfl);clear HN HP HQ;go_wp2_with fail
   all_goals first
    | (exfalso;omega)
    | (go_ret;exact ⟨by rw [HF.out];rfl,rfl⟩)
  case neg=>
  have g1:¬p1<0:=by omega
  have g2:¬f<=p1:=by omega
  have g3:¬p2<0:=by omega
  have g4:¬s<=p2:=by omega
  rcases (show k=0\/∃j,k=j+1 from by cases k;exact .inl rfl;exact .inr ⟨_,rfl⟩) with rfl | ⟨j,rfl⟩
  ·have HF:Hid (R=prsE f s (prevL l 1) (l.drop 1)):=aH (by rw [HN.out,show prevL l 0=none from rfl,rG hrg,bD rfl,HP.out]);clear HN hrg HP HQ;simp only [Nat.zero_mul,Nat.add_zero] at x0 x1;go_wp2_with fail
   all_goals first
    | (exfalso;omega)
    | (go_roundw
       case rel=>exact ⟨1,by omega,rfl,by go_num,trivial,HF⟩
       case measure=>simp [intOf];omega)
  ·obtain ⟨⟨q1,q2⟩,hq,z0,z1⟩:=HQ.out j rfl;simp only at z0 z1
   have HF:Hid (R=if 0<=cmp2 (q1,q2) (p1,p2) then 21 else prsE f s (prevL l (j+1+1)) (l.drop (j+1+1))):=aH (by
    rw [HN.out,hq,rF hrg,HP.out]
    split <;> simp)
   have HG:=aH (xG (p1,p2) (q1,q2));have hwk:IntKind.i64.wrap (j:Int)=(j:Int):=by rw [IntKind.wrap_i64];omega
   have hj1:(j:Int)<(l.length:Int):=by omega
   clear HN hrg HP HQ hq;rcases (show p1<q1\/(p1=q1/\p2<=q2)\/(p1=q1/\q2<p2)\/q1<p1 by omega) with hc | ⟨hc,hd⟩ | ⟨hc,hd⟩ | hc
   ·have HF':Hid (R=21):=aH (by rw [HF.out,bD (HG.out.2 (by simp only;omega))]);clear HF HG;go_wp2_with fail
    all_goals first
     | (exfalso;omega)
     | (go_ret;exact ⟨by rw [HF'.out];rfl,rfl⟩)
   ·have HF':Hid (R=21):=aH (by rw [HF.out,bD (HG.out.2 (by simp only;omega))]);clear HF HG;have e1:(p1 == q1)=true:=by simp [hc]
    have e2:¬p1<q1:=(by omega);clear hc;go_wp2_with fail
    all_goals first
     | (exfalso;omega)
     | (go_ret;exact ⟨by rw [HF'.out];rfl,rfl⟩)
   ·have HF':Hid (R=prsE f s (prevL l (j+1+1)) (l.drop (j+1+1))):=aH (by rw [HF.out,bB (fun h=>by have:=HG.out.1 h;simp only at this;omega)]);clear HF HG;have e1:(p1 == q1)=true:=by simp [hc]
    have e2:¬p1<q1:=(by omega);have e3:¬p2<=q2:=(by omega);clear hc;go_wp2_with fail
    all_goals first
     | (exfalso;omega)
     | (go_roundw
        case rel=>exact ⟨j+1+1,by omega,rfl,by go_num,trivial,HF'⟩
        case measure=>simp [intOf];omega)
   ·have HF':Hid (R=prsE f s (prevL l (j+1+1)) (l.drop (j+1+1))):=aH (by rw [HF.out,bB (fun h=>by have:=HG.out.1 h;simp only at this;omega)]);clear HF HG;have e1:(p1 == q1)=false:=by simp;omega
    have e2:¬p1<q1:=(by omega);go_wp2_with fail
    all_goals first
     | (exfalso;omega)
     | (go_roundw
        case rel=>exact ⟨j+1+1,by omega,rfl,by go_num,trivial,HF'⟩
        case measure=>simp [intOf];omega)
end
section
open Go Go.RowKit
attribute [local irreducible] Calls
theorem pS (f:Fct) (fh:FH) (p r:Int) (w:World) (H:FcAt w f fh):
 Calls Tryz.prog 13 #[.agg (fcC f fh).toArray,.int .i64 p,.int .i64 r] w fun e' w'=>e' = .returned (.int .i64 (fctE f p r))/\Below w.heap.size w w':=by
 obtain ⟨A0,c0,A1,c1,A2,c2,A3,c3,A4,c4⟩:=fh;have HH:=aH H;obtain ⟨R,hR⟩:∃R,fctE f p r=R:=⟨_,rfl⟩;rw [hR];have HR:=aH hR;have l0:=H.ln.le;have l1:=H.ed.le;have l2:=H.ki.le;have l3:=H.iv.le;have l4:=H.li.le;have m0:=H.ln.big;have m1:=H.ed.big;have m2:=H.ki.big;have m3:=H.iv.big;have m4:=H.li.big;simp only at l0 l1 l2 l3 l4 m0 m1 m2 m3 m4;obtain ⟨W0,hW0⟩:∃W,w.alloc (.cells ([Value.slice A0 f.loans.length c0,.slice A1 f.edges.length c1,.slice A2 f.killed.length c2,.slice A3 f.inval.length c3,.slice A4 f.live.length c4]).toArray 25)=W:=⟨_,rfl⟩;have hB0:Below w.heap.size w W0:=by rw [<- hW0];exact (aZ _ _).alloc (bA _) _
 have HB0:=aH hB0;have hcx:=cT w [Value.slice A0 f.loans.length c0,.slice A1 f.edges.length c1,.slice A2 f.killed.length c2,.slice A3 f.inval.length c3,.slice A4 f.live.length c4] 25;rw [hW0] at hcx;have HX:=aH hcx;obtain ⟨x0,x1,x2,x3,x4⟩:=aS HX.out;clear hR H hB0 hcx;unfold fcC;simp only;by_cases hb:fcBig f
 case pos=>
  have HF:Hid (R=15):=aH (by rw [<- HR.out];unfold fctE;rw [bD hb]);unfold fcBig at hb;clear HR;go_enter Tryz.func13,Tryz.ntmps13
  go_wp2_with fail
  all_goals first
   | (exfalso;omega)
   | (go_ret;exact ⟨by rw [HF.out];rfl,HB0.out⟩)
 case neg=>
 have HL:Hid (R=if losE p r none f.loans≠0 then losE p r none f.loans
  else if prsE p p none f.edges≠0 then prsE p p none f.edges
  else if prsE f.loans.length p none f.killed≠0 then prsE f.loans.length p none f.killed
  else if prsE f.loans.length p none f.inval≠0 then prsE f.loans.length p none f.inval
  else prsE r p none f.live):=aH (by rw [<- HR.out];unfold fctE;rw [bB hb])
 unfold fcBig at hb;have b0:¬(16777216:Int)<f.loans.length:=by omega
 have b1:¬(16777216:Int)<f.edges.length:=by omega
 have b2:¬(16777216:Int)<f.killed.length:=by omega
 have b3:¬(16777216:Int)<f.inval.length:=by omega
 have b4:¬(16777216:Int)<f.live.length:=by omega
 clear HR hb;go_enter Tryz.func13,Tryz.ntmps13
 go_wp2_with fail
 go_loopw [8] (fun v wr=>∃k:Nat,k<=f.loans.length/\v = .int .i64 k/\Hid (Below W0.heap.size W0 wr)/\Hid (losE p r none f.loans=losE p r (prevL f.loans k) (f.loans.drop k))) (fun v _=>f.loans.length - (intOf v).toNat)
 case atStart=>exact ⟨0,by omega,rfl,aH (aZ _ _),aH rfl⟩
 case round=>
  obtain ⟨k,hk,rfl,hB,hr⟩:=hrel;have HBW:=aH (HB0.out.trans (hB.out.mono HB0.out.size));have HXr:=aH (fun i v h=>cQ hB.out (HX.out i v h));clear x0 x1 x2 x3 x4;have y0:=HXr.out 0 _ rfl;have y1:=HXr.out 1 _ rfl;have y2:=HXr.out 2 _ rfl;have y3:=HXr.out 3 _ rfl;have y4:=HXr.out 4 _ rfl;by_cases hlt:k<f.loans.length
  case neg=>
   have HN:Hid (losE p r none f.loans=0):=aH (by rw [hr.out,bG (by omega)];rfl);have HE:=aH (fun (X:World) (hX:X=wr)=>HH.out.ed.keep RPr.keeps HBW.out);have HS1:=aH (HH.out.ed.keep RPr.keeps HBW.out);have HS2:=aH (HH.out.ki.keep RPr.keeps HBW.out);have HS3:=aH (HH.out.iv.keep RPr.keeps HBW.out);have HS4:=aH (HH.out.li.keep RPr.keeps HBW.out);have HP1:=aH (jZ f.edges p p A1 c1 wr HS1.out);have HP2:=aH (jZ f.killed f.loans.length p A2 c2 wr HS2.out);have HP3:=aH (jZ f.inval f.loans.length p A3 c3 wr HS3.out);have HP4:=aH (jZ f.live r p A4 c4 wr HS4.out);have HL2:=aH (HL.out.trans (by rw [bB (by simp [HN.out])]));clear HL hr HN HE HS1 HS2 HS3 HS4;generalize prsE p p none f.edges=E1 at *;generalize prsE f.loans.length p none f.killed=E2 at *;generalize prsE f.loans.length p none f.inval=E3 at *;generalize prsE r p none f.live=E4 at *;by_cases h1:E1=0
   case neg=>
    have e1:(E1 == 0)=false:=by simp [h1]
    have HF:Hid (R=E1):=aH (by rw [HL2.out,bD h1]);clear HL2 h1;go_wp2_with (go_at_call 38;(first | refine HP1.out.mono ?_ | refine HP2.out.mono ?_ | refine HP3.out.mono ?_ | refine HP4.out.mono ?_);rintro e' w1 ⟨rfl,hw⟩;obtain rfl:=hw.symm)
    go_ret;exact ⟨by rw [HF.out];rfl,HBW.out⟩
   case pos=>
   subst h1;by_cases h2:E2=0
   case neg=>
    have e1:(E2 == 0)=false:=by simp [h2]
    have HF:Hid (R=E2):=aH (by rw [HL2.out,bB (by simp),bD h2]);clear HL2 h2;go_wp2_with (go_at_call 38;(first | refine HP1.out.mono ?_ | refine HP2.out.mono ?_ | refine HP3.out.mono ?_ | refine HP4.out.mono ?_);rintro e' w1 ⟨rfl,hw⟩;obtain rfl:=hw.symm)
    go_ret;exact ⟨by rw [HF.out];rfl,HBW.out⟩
   case pos=>
   subst h2;by_cases h3:E3=0
   case neg=>
    have e1:(E3 == 0)=false:=by simp [h3]
    have HF:Hid (R=E3):=aH (by rw [HL2.out,bB (by simp),bB (by simp),bD h3]);clear HL2 h3;go_wp2_with (go_at_call 38;(first | refine HP1.out.mono ?_ | refine HP2.out.mono ?_ | refine HP3.out.mono ?_ | refine HP4.out.mono ?_);rintro e' w1 ⟨rfl,hw⟩;obtain rfl:=hw.symm)
    go_ret;exact ⟨by rw [HF.out];rfl,HBW.out⟩
   case pos=>
   subst h3;have HF:Hid (R=E4):=aH (by rw [HL2.out,bB (by simp),bB (by simp),bB (by simp)]);clear HL2;go_wp2_with (go_at_call 38;(first | refine HP1.out.mono ?_ | refine HP2.out.mono ?_ | refine HP3.out.mono ?_ | refine HP4.out.mono ?_);rintro e' w1 ⟨rfl,hw⟩;obtain rfl:=hw.symm)
   go_ret;exact ⟨by rw [HF.out];rfl,HBW.out⟩
  case pos=>
  have hsl:=(HH.out.ln.keep RLn.keeps HBW.out).sl;obtain ⟨b,o,rfl,hb,hx⟩:=hsl.at_ hlt;have HPS:Hid (prevL f.loans (k+1)=some f.loans[k]):=aH (by unfold prevL;rw [bB (by omega)];simp [hlt])
  have HQ:Hid (∀j,k=j+1->∃q,prevL f.loans k=some q/\RLn wr wr.heap.size b (o+j * 5) q):=aH (fun j hj=>by
   obtain ⟨b',o',hbo,_,hz⟩:=hsl.at_ (show j<f.loans.length by omega);obtain ⟨rfl,rfl⟩:b=b'/\o=o':=by simpa using hbo
   exact ⟨f.loans[j],by unfold prevL;rw [bB (by omega),show k - 1=j by omega];exact bF (by omega),hz⟩)
  have HN:Hid (losE p r none f.loans=if loE p r (prevL f.loans k) f.loans[k]=0 then losE p r (some f.loans[k]) (f.loans.drop (k+1)) else loE p r (prevL f.loans k) f.loans[k]):=aH (by rw [hr.out,dA hlt,oZ]);have HRX:Hid (losE p r none f.loans≠0->R=losE p r none f.loans):=aH (fun h=>by rw [HL.out,bD h]);obtain ⟨x,hxe⟩:∃x,f.loans[k]=x:=⟨_,rfl⟩;rw [hxe] at hx HPS HN;obtain ⟨g0,g1,g2,g3,PA,pc,g4,p1,p2,p3⟩:=hx;have HSP:Hid (Slc 2 RPj wr PA pc x.place.proj):=aH ⟨p3,p1,p2⟩;have hsz:=HBW.out.size;have hlw:w.heap.size<wr.heap.size:=cF wr _ y0;obtain ⟨xr,xp,xm,xl,xj⟩:=x;simp only at g0 g1 g2 g3 g4 p1 HSP;obtain ⟨W1,hW1⟩:∃W,wr.alloc (.cells #[.int .i64 xr,.int .i64 xp,.bool xm,.int .i64 xl,.slice PA xj.length pc] 38)=W:=⟨_,rfl⟩;have hbW:Below wr.heap.size wr W1:=by rw [<- hW1];exact (aZ _ _).alloc (bA _) _
  have HW0:=aH (hB.out.trans (hbW.mono hB.out.size));have HW:=aH (HBW.out.trans (hbW.mono hsz));have n0:=cT wr [.int .i64 xr,.int .i64 xp,.bool xm,.int .i64 xl,.slice PA xj.length pc] 38;simp only [hW1] at n0;have n0r:=n0 0 _ rfl;have n0p:=n0 1 _ rfl;have n0m:=n0 2 _ rfl;have n0l:=n0 3 _ rfl;have n0j:=n0 4 _ rfl;have HC:=aH (sO xl PA pc xj W1 (HSP.out.keep RPj.keeps hbW));clear HL hr hsl hxe p1 p3 n0;by_cases hrg:xr<0\/r<=xr\/xp<0\/p<=xp
  case pos=>
   have HF:Hid (R=3):=aH (by
    have h3:losE p r none f.loans=3:=by rw [HN.out,lS hrg];rfl
    rw [HRX.out (by rw [h3];decide),h3])
   clear HN HPS HQ HRX;go_wp2_with fail
   all_goals first
    | (exfalso;omega)
    | (go_ret;exact ⟨by rw [HF.out];rfl,HW.out⟩)
  case neg=>
  have q1:¬xr<0:=by omega
  have q2:¬r<=xr:=by omega
  have q3:¬xp<0:=by omega
  have q4:¬p<=xp:=by omega
  by_cases hck:chk xl xj=0
  case neg=>
   have HF:Hid (R=chk xl xj):=aH (by
    have h3:losE p r none f.loans=chk xl xj:=by rw [HN.out,vW hrg hck,bB hck]
    rw [HRX.out (by rw [h3];exact hck),h3])
   have e3:(chk xl xj != 0)=true:=by simp [hck]
   generalize chk xl xj=ck at *;clear HN HPS HQ HRX hrg hck;go_wp2_with (go_at_call 37;refine HC.out.mono ?_;rintro e' w1 ⟨rfl,hw⟩)
   all_goals first
    | (exfalso;omega)
    | (go_ret;exact ⟨by rw [HF.out];rfl,HW.out.trans (hw.mono HW.out.size)⟩)
  case pos=>
  have e3:(chk xl xj != 0)=false:=by simp [hck]
  rw [hck] at HC e3;rcases (show k=0\/∃j,k=j+1 from by cases k;exact .inl rfl;exact .inr ⟨_,rfl⟩) with rfl | ⟨j,rfl⟩
  ·have HF:Hid (losE p r none f.loans=losE p r (prevL f.loans 1) (f.loans.drop 1)):=aH (by rw [HN.out,show prevL f.loans 0=none from rfl,rW hrg hck,bD rfl,HPS.out]);clear HN HPS HQ HRX hrg hck;simp only [Nat.zero_mul,Nat.add_zero] at g0 g1 g2 g3 g4;go_wp2_with (go_at_call 37;refine HC.out.mono ?_;rintro e' w2 ⟨rfl,hw⟩)
   all_goals first
    | (exfalso;omega)
    | skip
   have hS:True:=trivial;refine eC (S:=fun _=>True) (by kernel_rfl) ?_;(iterate 3 (refine dG (v:=?_) (by kernel_rfl) (fun _ _ _ h=>h) (Or.inl ⟨by rfl,?_⟩) hS ?_;rotate_left;(next=>(rintro X _;(try simp only [aL]);go_simp;rfl));simp only [aL,Act.put,aM]));(iterate 10 (refine dG (v:=undef) (by kernel_rfl) (fun _ _ _ h=>h) (Or.inr ⟨by rfl,rfl⟩) hS ?_;simp only [aL,Act.put,aM]));((refine dG (v:=?_) (by kernel_rfl) (fun _ _ _ h=>h) (Or.inl ⟨by rfl,?_⟩) hS ?_;rotate_left;(next=>(rintro X _;(try simp only [aL]);go_simp;rfl));simp only [aL,Act.put,aM]))
   refine eO rfl ?_;go_wp2_with fail
   go_roundw
   case rel=>exact ⟨1,by omega,by go_num,aH (HW0.out.trans (hw.mono HW0.out.size)).drew,HF⟩
   case measure=>simp [intOf];omega
  ·obtain ⟨q,hq,z0,z1,-⟩:=HQ.out j rfl
   have HF:Hid (losE p r none f.loans=if xp<=q.pt then 21 else losE p r (prevL f.loans (j+1+1)) (f.loans.drop (j+1+1))):=aH (by
    rw [HN.out,hq,rV hrg hck,HPS.out]
    split <;> simp)
   have HQ1:Hid (∀W,Below W1.heap.size W1 W->W.cell? ⟨b,o+j * 5+1,none⟩=some (.int .i64 q.pt)):=aH (fun W h=>cQ h ((hbW.cell (p:=⟨b,o+j * 5+1,none⟩) hb).trans z1));have HN1:Hid (∀W,Below W1.heap.size W1 W->W.cell? ⟨wr.heap.size,1,none⟩=some (.int .i64 xp)):=aH (fun W h=>cQ h n0p);have HY0:Hid (∀W,Below W1.heap.size W1 W->W.cell? ⟨w.heap.size,0,none⟩=some (.slice (some ⟨b,o,none⟩) f.loans.length c0)):=aH (fun W h=>cQ h (cQ hbW y0));generalize q.pt=qp at HF HQ1;clear HN HPS HQ hrg hck hq z0 z1;have hwk:IntKind.i64.wrap (j:Int)=(j:Int):=by rw [IntKind.wrap_i64];omega
   have hj1:(j:Int)<(f.loans.length:Int):=by omega
   go_wp2_with (go_at_call 37;refine HC.out.mono ?_;rintro e' w2 ⟨rfl,hw⟩)
   all_goals first
    | (exfalso;omega)
    | skip
   have hS:w2.drew.cell? ⟨b,o+j * 5+1,none⟩=some (.int .i64 qp)/\w2.drew.cell? ⟨wr.heap.size,1,none⟩=some (.int .i64 xp)/\w2.drew.cell? ⟨w.heap.size,0,none⟩=some (.slice (some ⟨b,o,none⟩) f.loans.length c0):=⟨HQ1.out _ hw.drew,HN1.out _ hw.drew,HY0.out _ hw.drew⟩;refine eC (S:=fun X=>X.cell? ⟨b,o+j * 5+1,none⟩=some (.int .i64 qp)/\X.cell? ⟨wr.heap.size,1,none⟩=some (.int .i64 xp)/\X.cell? ⟨w.heap.size,0,none⟩=some (.slice (some ⟨b,o,none⟩) f.loans.length c0)) (by kernel_rfl) ?_;(iterate 14 (refine dG (v:=?_) (by kernel_rfl) (fun _ _ _ h=>h) (Or.inl ⟨by rfl,?_⟩) hS ?_;rotate_left;(next=>(rintro X ⟨s1,s2,s3⟩;(try simp only [aL]);go_simp;rfl));simp only [aL,Act.put,aM]));refine eO rfl ?_;by_cases hcm:xp<=qp
   ·have HF':Hid (R=21):=aH (by
     have h3:losE p r none f.loans=21:=by rw [HF.out,bD hcm]
     rw [HRX.out (by rw [h3];decide),h3])
    have hd1:decide (xp<=qp)=true:=decide_eq_true hcm;clear HF HRX;go_wp2_with fail
    go_ret;exact ⟨by rw [HF'.out];rfl,(HW.out.trans (hw.mono HW.out.size)).drew⟩
   ·have HF':Hid (losE p r none f.loans=losE p r (prevL f.loans (j+1+1)) (f.loans.drop (j+1+1))):=aH (by rw [HF.out,bB hcm]);have hd1:decide (xp<=qp)=false:=decide_eq_false hcm;clear HF;go_wp2_with fail
    go_roundw
    case rel=>exact ⟨j+1+1,by omega,by go_num,aH (HW0.out.trans (hw.mono HW0.out.size)).drew,HF'⟩
    case measure=>simp [intOf];omega
end
end Go.Proofs.YtkaigkfbkpinlaaGreatDoor
