/-
  Parts of the proof: V21 V30 V28 V18 Memo V31 V32 V22 V23 V24 V62.
-/
import Derived.Test.YtmknfbfppmkcfaaGreatDoorPI0
import Derived.Test.YtmknfbfppmkcfaaGreatDoorPI5
import Derived.Test.YtmknfbfppmkcfaaGreatDoorPI3
import Derived.Test.YtmknfbfppmkcfaaGreatDoorPI4
import Derived.WideKeyPair
import Derived.WideKeyArr
namespace Go.Proofs.YtmknfbfppmkcfaaGreatDoor
set_option maxRecDepth 100000
set_option maxHeartbeats 16000000
section
open Go Go.RowKit
def rvC (r:Rvl) (A:Option Addr) (c:Nat) (B:Option Addr) (d:Nat):List Value:=[.int .i64 r.kind,.int .i64 r.op,.int .i64 r.reg,.bool r.mu,.int .i64 r.place.loc,.slice A r.place.proj.length c,.slice B r.args.length d]
def tmC (t:Trm) (A:Option Addr) (c:Nat) (B:Option Addr) (d:Nat) (C:Option Addr) (e:Nat):List Value:=[.int .i64 t.kind,.slice A t.targets.length c,.slice B t.args.length d,.int .i64 t.place.loc,.slice C t.place.proj.length e,.string t.name]
def opC (o:Opd) (A:Option Addr) (c:Nat):List Value:=[.int .i64 o.kind,.int .i64 o.place.loc,.slice A o.place.proj.length c,.int .i64 o.n]
theorem cU (w:World) (l:List Value) (t:TypeId):∀i v,l[i]?=some v->(w.alloc (.cells l.toArray t)).cell? ⟨w.heap.size,i,none⟩=some v:=fun i v hi=>by
 rw [World.cell?_alloc_at _ _ _ _ (by simp)];simpa using hi
theorem cN {W w1:World} {n:Nat} {l:List Value} (h:∀i v,l[i]?=some v->W.cell? ⟨n,i,none⟩=some v) (hb:Below W.heap.size W w1):∀i v,l[i]?=some v->w1.cell? ⟨n,i,none⟩=some v:=fun i v hi=>cM hb (h i v hi)
theorem lQ (m k:Nat):((m:Int) == (k:Int))=decide (m=k):=by
 rw [bR];simp;omega
theorem uJ (r:Rvl) (A B:Option Addr) (c d:Nat) (w:World):
 Calls Tryz.prog 150 #[.agg (rvC r A c B d).toArray] w fun e' w'=>e' = .returned (.bool (unusedR r))/\Below w.heap.size w w':=by
 have HZ:=aF (fun W=>eV r.place A c W);obtain ⟨k,op,rg,mu,pl,args⟩:=r;simp only at HZ;unfold rvC;simp only;obtain ⟨m,hm⟩:∃m,args.length=m:=⟨_,rfl⟩;have HQ:Hid (unusedR ⟨k,op,rg,mu,pl,args⟩=(let plain:=decide (rg=0) && !mu && zeroP pl;if k=0 then plain && decide (op=0) && decide (m=1) else if k=1 then decide (op=0) && decide (m=0) else if k=2 then plain && decide (m=1) else if k=3 then plain && decide (m=2) else plain && decide (op=0))):=aF (by unfold unusedR;rw [<- hm]);rw [hm];generalize unusedR ⟨k,op,rg,mu,pl,args⟩=q at HQ ⊢;generalize zeroP pl=z at HZ HQ;clear hm;have n1:=aF (lQ m 1);have n0:=aF (eN m);have n2:=aF (lQ m 2);rcases (show k=0\/k=1\/k=2\/k=3\/(k≠0/\k≠1/\k≠2/\k≠3) by omega) with rfl | rfl | rfl | rfl | ⟨h0,h1,h2,h3⟩
 case inr.inr.inr.inr=>
  have e0:(k == 0)=false:=by simp [h0]
  have e1:(k == 1)=false:=by simp [h1]
  have e2:(k == 2)=false:=by simp [h2]
  have e3:(k == 3)=false:=by simp [h3]
  have HF:Hid (q=(decide (rg=0) && !mu && z && decide (op=0))):=aF (by rw [HQ.out];simp only;rw [aZ h0,aZ h1,aZ h2,aZ h3]);clear HQ h0 h1 h2 h3;go_enter Tryz.func150,Tryz.ntmps150
  go_wp2_with (go_at_call 115;refine (HZ.out _).mono ?_;rintro e' w1 ⟨rfl,hb1⟩;have y:=cN (cU w _ _) hb1;obtain ⟨y0,y1,y2,y3,y4,y5,y6⟩:=aS y;clear y)
  all_goals
   go_ret;refine ⟨?_,by first | exact ((aX _ _).alloc (aY _) _).trans (hb1.mono (by simp)) | exact aH⟩;rw [HF.out];show Ending.returned (.bool _)=_;clear HF HZ;refine congrArg (fun b=>Ending.returned (Value.bool b)) ?_;try clear y0 y1 y2 y3 y4 y5 y6
   first | (clear e0 e1 e2 e3;have ho:(op == 0)=decide (op=0):=by (rw [bR];simp);rw [ho];simp_all;done) | (clear e0 e1 e2 e3;grind)
 ·have HF:=aF HQ.out;clear HQ;go_enter Tryz.func150,Tryz.ntmps150
  go_wp2_with (go_at_call 115;refine (HZ.out _).mono ?_;rintro e' w1 ⟨rfl,hb1⟩;have y:=cN (cU w _ _) hb1;obtain ⟨y0,y1,y2,y3,y4,y5,y6⟩:=aS y;clear y)
  all_goals
   go_ret;refine ⟨?_,by first | exact ((aX _ _).alloc (aY _) _).trans (hb1.mono (by simp)) | exact aH⟩;have m1:=n1.out;have m0:=n0.out;have m2:=n2.out;rw [HF.out];first | (simp_all;done) | (clear HZ;simp_all;done) | (cases mu <;> cases z <;> simp_all;done) | (clear HZ;grind)
 ·have HF:=aF HQ.out;clear HQ;go_enter Tryz.func150,Tryz.ntmps150
  go_wp2_with (go_at_call 115;refine (HZ.out _).mono ?_;rintro e' w1 ⟨rfl,hb1⟩;have y:=cN (cU w _ _) hb1;obtain ⟨y0,y1,y2,y3,y4,y5,y6⟩:=aS y;clear y)
  all_goals
   go_ret;refine ⟨?_,by first | exact ((aX _ _).alloc (aY _) _).trans (hb1.mono (by simp)) | exact aH⟩;have m1:=n1.out;have m0:=n0.out;have m2:=n2.out;rw [HF.out];first | (simp_all;done) | (clear HZ;simp_all;done) | (cases mu <;> cases z <;> simp_all;done) | (clear HZ;grind)
 ·have HF:=aF HQ.out;clear HQ;go_enter Tryz.func150,Tryz.ntmps150
  go_wp2_with (go_at_call 115;refine (HZ.out _).mono ?_;rintro e' w1 ⟨rfl,hb1⟩;have y:=cN (cU w _ _) hb1;obtain ⟨y0,y1,y2,y3,y4,y5,y6⟩:=aS y;clear y)
  all_goals
   go_ret;refine ⟨?_,by first | exact ((aX _ _).alloc (aY _) _).trans (hb1.mono (by simp)) | exact aH⟩;have m1:=n1.out;have m0:=n0.out;have m2:=n2.out;rw [HF.out];first | (simp_all;done) | (clear HZ;simp_all;done) | (cases mu <;> cases z <;> simp_all;done) | (clear HZ;grind)
 ·have HF:=aF HQ.out;clear HQ;go_enter Tryz.func150,Tryz.ntmps150
  go_wp2_with (go_at_call 115;refine (HZ.out _).mono ?_;rintro e' w1 ⟨rfl,hb1⟩;have y:=cN (cU w _ _) hb1;obtain ⟨y0,y1,y2,y3,y4,y5,y6⟩:=aS y;clear y)
  all_goals
   go_ret;refine ⟨?_,by first | exact ((aX _ _).alloc (aY _) _).trans (hb1.mono (by simp)) | exact aH⟩;have m1:=n1.out;have m0:=n0.out;have m2:=n2.out;rw [HF.out];first | (simp_all;done) | (clear HZ;simp_all;done) | (cases mu <;> cases z <;> simp_all;done) | (clear HZ;grind)
end
section
open Go Go.RowKit Go.Maps
def CopE.F (E:CopE):Value:= .func (.func 190) #[] #[.pointer (some ⟨E.pl,0,none⟩),.pointer (some ⟨E.ps,0,none⟩),.pointer (some ⟨E.pc,0,none⟩)]
def CopE.Rec (E:CopE) (ts:List Ty) (m:Nat):Prop:=∀i:Nat,i<m->i<ts.length->∀W sl,E.St ts.length W sl E.F->
 Calls Tryz.prog 190 #[.int .i64 i,.pointer (some ⟨E.pl,0,none⟩),.pointer (some ⟨E.ps,0,none⟩),.pointer (some ⟨E.pc,0,none⟩)] W fun e' W'=>∃q,e' = .returned (.bool q)/\E.Q ts E.F sl i q W'
theorem xDE (E:CopE) (ts:List Ty) (m:Nat) (HR:E.Rec ts m) (k:Nat) (hk:k<m) (hkl:k<ts.length) (W:World) (sl:List Int) (h:E.St ts.length W sl E.F):
 Calls Tryz.prog 192 #[.int .i64 k,.pointer (some ⟨E.pc,0,none⟩)] W fun e' W'=>∃q,e' = .returned (.bool (!q))/\E.Q ts E.F sl k q W':=by
 have x:=h.c;have HC:=aF (HR k hk hkl W sl h);clear h HR;generalize E.Q ts E.F sl k=Q at HC ⊢;unfold CopE.F at x;go_enter Tryz.func192,Tryz.ntmps192
 go_wp2_with (go_at_call 190;refine HC.out.mono ?_;rintro e' w1 ⟨q,rfl,hq⟩)
 go_ret;exact ⟨q,rfl,hq⟩
def CopE.IQ (E:CopE) (ts:List Ty) (sl fl:List Int) (r:Int) (W':World):Prop:=
 (r = -1/\∃sl',NewT ts sl sl'/\(∀f∈fl,CovT ts sl' f)/\E.St ts.length W' sl' E.F)\/(0<=r/\(∃f∈fl,copB ts f=false)/\Below E.w0.heap.size E.w0 W')
theorem xDC (E:CopE) (ts:List Ty) (m:Nat) (HR:E.Rec ts m) (fl:List Int) (hfl:∀f∈fl,0<=f/\f<(m:Int)/\f<(ts.length:Int)) (B:Option Addr) (d:Nat) (hs:Slc 1 RInt E.w0 B d fl) (W:World) (sl:List Int) (h:E.St ts.length W sl E.F):
 Calls Tryz.prog 211 #[.slice B fl.length d,.func (.func 192) #[] #[.pointer (some ⟨E.pc,0,none⟩)]] W fun e' W'=>∃r:Int,e' = .returned (.int .i64 r)/\E.IQ ts sl fl r W':=by
 have hle:=hs.le;have hbig:=hs.big;have HS:=aF hs;have H0:=aF h;have HC:=aF (xDE E ts m HR);clear hs h HR;go_enter Tryz.func211,Tryz.ntmps211
 go_wp2_with fail
 go_loopw [8] (fun v wr=>∃(k:Nat) (sl':List Int),k<=fl.length/\v = .int .i64 k/\Hid (E.St ts.length wr sl' E.F)/\Hid (NewT ts sl sl')/\Hid (∀j (hj:j<fl.length),j<k->CovT ts sl' fl[j])) (fun v _=>fl.length - (intOf v).toNat)
 case atStart=>exact ⟨0,sl,by omega,rfl,H0,aF (NewT.refl _ _),aF (fun j _ h=>absurd h (by omega))⟩
 case round=>
  obtain ⟨k,sl',hk,rfl,HST,HN,HD⟩:=hrel;by_cases hlt:k<fl.length
  ·obtain ⟨bb,oo,rfl,hbb,hx⟩:=(HS.out.keep RInt.keeps HST.out.low).sl.at_ hlt;have hy:=hfl fl[k] (bN hlt);obtain ⟨y,hyy⟩:=bG hy.1;have HY:=aF hyy
   have x0:wr.cell? ⟨bb,oo+k,none⟩=some (.int .i64 y):=by
    rw [<- hyy];simpa [RInt] using hx
   have HCK:=aF (HC.out y (by omega) (by omega) wr sl' HST.out);have HMEM:=aF (bN hlt);clear hx hy hyy HC;go_wp2_with (go_at_call 192;refine HCK.out.mono ?_;rintro e' w1 ⟨q,rfl,hq⟩;have HQ:=aF hq;clear hq)
   ·have hqf:q=false:=by cases q <;> simp_all
    go_ret;refine ⟨_,rfl,Or.inr ⟨by omega,⟨_,HMEM.out,?_⟩,?_⟩⟩
    ·rcases HQ.out with ⟨h1,-⟩ | ⟨-,h2,-⟩
     ·rw [hqf] at h1;cases h1
     ·rw [HY.out];exact h2
    ·rcases HQ.out with ⟨h1,-⟩ | ⟨-,-,h3⟩
     ·rw [hqf] at h1;cases h1
     ·exact h3
   ·have hqt:q=true:=by cases q <;> simp_all
    rcases HQ.out with ⟨-,sl2,h1,h2,h3⟩ | ⟨h1,-⟩
    ·go_roundw
     case rel=>
      refine ⟨k+1,sl2,by omega,by go_num,aF h3,aF (HN.out.trans h1),aF (fun j hj hjk=>?_)⟩;rcases Nat.lt_or_ge j k with hjl | hjl
      ·exact (HD.out j hj hjl).mono h1.1
      ·obtain rfl:j=k:=by omega
       rw [HY.out];exact h2
     case measure=>simp [intOf];omega
    ·rw [hqt] at h1;cases h1
  ·clear HC;go_wp2_with fail
   go_ret
   exact ⟨-1,rfl,Or.inl ⟨rfl,sl',HN.out,fun f hf=>by
    obtain ⟨j,hj,rfl⟩:=List.mem_iff_getElem.1 hf
    exact HD.out j hj (by omega),HST.out⟩⟩
theorem xDD (E:CopE) (ts:List Ty) (m:Nat) (HR:E.Rec ts m) (fl:List Int) (hfl:∀f∈fl,0<=f/\f<(m:Int)/\f<(ts.length:Int)) (B:Option Addr) (d:Nat) (hs:Slc 1 RInt E.w0 B d fl) (W:World) (sl:List Int) (h:E.St ts.length W sl E.F):
 Calls Tryz.prog 191 #[.slice B fl.length d,.func (.func 192) #[] #[.pointer (some ⟨E.pc,0,none⟩)]] W fun e' W'=>∃r:Int,e' = .returned (.bool (decide (0<=r)))/\E.IQ ts sl fl r W':=by
 have HC:=aF (xDC E ts m HR fl hfl B d hs W sl h);clear hs h HR hfl;generalize E.IQ ts sl fl=Q at HC ⊢;go_enter Tryz.func191,Tryz.ntmps191
 go_wp2_with (go_at_call 211;refine HC.out.mono ?_;rintro e' w1 ⟨r,rfl,hq⟩)
 go_ret;exact ⟨r,rfl,hq⟩
theorem oQ (E:CopE) (ts:List Ty) (HE:E.Ok ts):∀m:Nat,E.Rec ts m
 | 0=>fun _ h=>absurd h (by omega)
 | m+1=>fun i him hi W sl h=>by
   by_cases him2:i<m
   ·exact oQ E ts HE m i him2 hi W sl h
   obtain rfl:m=i:=by omega
   have HC:=aF (xDD E ts m (oQ E ts HE m));have HOK:=aF (HE.tyok m hi);have HCB:=aF (rZ HE.tyok hi);have hn:=HE.n;have hlen:=h.len;have x1:=h.l;have x2:=h.s;have keyi:=key3 (a:=(m:Int)) (by omega) (by omega);have hown:=h.own;have HST:=aF h;have HEE:=aF HE;have hle:=HE.ty.le;have hbig:=HE.ty.big;obtain ⟨bb,oo,hA,hbb,hx⟩:=HE.ty.sl.at_ hi;have HX:=aF hx;have HLOW:=aF h.low;obtain ⟨t,ht⟩:∃t,ts[m]=t:=⟨_,rfl⟩;rw [ht] at HX HOK HCB;obtain ⟨r1,r2,r3,r4,A2,c2,r5,r6,r7,r8⟩:=HX.out;have y1:=cM HLOW.out r1;have y2:=cM HLOW.out r2;have y5:=cM HLOW.out r5;have R5:=aF r5;have HFL:Hid (Slc 1 RInt E.w0 A2 c2 t.flds):=aF ⟨r8,r6,r7⟩;have hbl:=bO hbb h.low.size;have HT:=aF ht;clear hx HX r8 r1 r2 r3 r4 r5 ht h HE him him2;rw [hA] at x1;by_cases h3:t.kind=3
   ·have e3:(t.kind == 3)=true:=by simp [h3]
    have HF:Hid (∀q:Bool,(!t.mu)=q->E.Q ts E.F sl (m:Int) q W):=aF (fun q hq=>by
     cases hmu:t.mu
     ·rw [hmu] at hq;subst hq;exact Or.inl ⟨rfl,sl,NewT.refl _ _,⟨by simpa using hi,by omega,Or.inl (by simp only [bW];rw [HT.out];exact ⟨h3,hmu⟩)⟩,HST.out⟩
     ·rw [hmu] at hq;subst hq
      exact Or.inr ⟨rfl,by rw [HCB.out,bA h3,hmu];rfl,HLOW.out⟩)
    clear hown HC HCB HOK;go_enter Tryz.func190,Tryz.ntmps190
    go_wp2_with fail
    go_ret;exact ⟨_,rfl,HF.out _ rfl⟩
   ·have e3:(t.kind == 3)=false:=by simp [h3]
    by_cases hm:(m:Int)∈sl
    ·have HFB:Hid (i64F (inF sl) (.int .i64 (m:Int))=true):=aF (by simp [i64F,inF,hm]);have HF:Hid (E.Q ts E.F sl (m:Int) true W):=aF (Or.inl ⟨rfl,sl,NewT.refl _ _,⟨by simpa using hi,by omega,Or.inr (by simp only [bW];rw [HT.out];exact ⟨h3,hm⟩)⟩,HST.out⟩);clear HC HCB HOK hm;go_enter Tryz.func190,Tryz.ntmps190
     go_wp2_with (at_lookup;refine dH _ rfl _ _ 251 rfl 3 4 law3 Tryz.underlying251 Tryz.underlying4 (gT _) _ _ _ rfl hown _ _ rfl keyi ?_;rw [HFB.out])
     go_ret;exact ⟨_,rfl,HF.out⟩
    ·have HFB:Hid (i64F (inF sl) (.int .i64 (m:Int))=false):=aF (by simp [i64F,inF,hm]);have HM:=aF hm;have HH3:=aF h3;clear hm h3;go_enter Tryz.func190,Tryz.ntmps190
     go_wp2_with (first
      | (at_lookup;refine dH _ rfl _ _ 251 rfl 3 4 law3 Tryz.underlying251 Tryz.underlying4 (gT _) _ _ _ rfl hown _ _ rfl keyi ?_;rw [HFB.out])
      | (at_mapUpdate;refine eJ _ rfl _ _ _ 251 rfl 3 4 law3 Tryz.underlying251 Tryz.underlying4 _ _ _ rfl hown (by unfold maxLen;omega) _ _ _ rfl rfl keyi trivial _ (lW sl (m:Int)) (oK sl (m:Int)) ?_;intro w3 hown3 hg3;have HS3:=aF (HST.out.put HEE.out HM.out ⟨by omega,by omega⟩ hown3 hg3);have z1:=HS3.out.l;have z5:=cM HS3.out.low R5.out;rw [hA] at z1;clear hown3 hg3)
      | (go_at_call 191;refine (HC.out t.flds (fun f hf=>by have:=HOK.out.2 f hf;omega) A2 c2 HFL.out _ _ HS3.out).mono ?_;rintro e' w4 ⟨r,rfl,hq⟩;have HQ:=aF hq;clear hq))
     go_ret;refine ⟨_,rfl,?_⟩;rcases HQ.out with ⟨rfl,sl2,h1,h2,h4⟩ | ⟨h1,⟨f,hf,hcf⟩,h4⟩
     ·refine Or.inl ⟨rfl,sl2,h1.mark hi (by rw [HT.out];exact h2),⟨by simpa using hi,by omega,Or.inr ?_⟩,h4⟩;simp only [bW];rw [HT.out];exact ⟨HH3.out,h1.1 _ (by simp)⟩
     ·refine Or.inr ⟨by simp [h1],?_,h4⟩;rw [HCB.out,aZ HH3.out,Bool.eq_false_iff,ne_eq,List.all_eq_true];intro h0;have:=h0 f hf;rw [hcf] at this;cases this
theorem xIL (w:World) (n:Nat) (A:Option Addr) (c:Nat) (F:Value) (t1 t2 t3:TypeId):
 CopE.St ⟨w,A,c,w.heap.size,w.heap.size+2,w.heap.size+3,w.heap.size+1⟩ n ((((w.alloc (.cells #[.slice A n c] t1)).alloc (.map #[] 0)).alloc (.cells #[.map (some (w.heap.size+1))] t2)).alloc (.cells #[F] t3)) [] F:=by
 refine ⟨aH,?_,?_,?_,?_,by simp,by simp⟩
 ·exact cM ((((aX _ _).alloc (aY _) _).alloc (by simp) _).alloc (by simp) _) (cU w [.slice A n c] t1 0 _ rfl)
 ·have:=cU ((w.alloc (.cells #[.slice A n c] t1)).alloc (.map #[] 0)) [.map (some (w.heap.size+1))] t2 0 _ rfl;simp only [bI] at this;exact cM ((aX _ _).alloc (aY _) _) this
 ·have:=cU (((w.alloc (.cells #[.slice A n c] t1)).alloc (.map #[] 0)).alloc (.cells #[.map (some (w.heap.size+1))] t2)) [F] t3 0 _ rfl;simp only [bI] at this;exact this
 ·have:=OwnB.made (w.alloc (.cells #[.slice A n c] t1)) Tryz.prog 3 4;rw [<- zA,bI] at this;exact (this.alloc _).alloc _
theorem xGO (ts:List Ty) (hok:TyOk ts) (hn:ts.length<=65535) (i:Int) (A:Option Addr) (c:Nat) (w:World) (hs:Slc 5 RTy w A c ts):
 Calls Tryz.prog 154 #[.slice A ts.length c,.int .i64 i] w fun e' w'=>e' = .returned (.bool (copB ts i))/\Below w.heap.size w w':=by
 have hle:=hs.le;have hbig:=hs.big;by_cases hr:0<=i/\i<(ts.length:Int)
 case neg=>
  rw [uA (by omega)];clear hs;go_enter Tryz.func154,Tryz.ntmps154
  go_wp2_with fail
  all_goals first
   | (exfalso;omega)
   | (go_ret;exact ⟨rfl,aH⟩)
 case pos=>
 obtain ⟨k,rfl⟩:=bG hr.1;have hlt:k<ts.length:=by omega
 have HE:CopE.Ok ⟨w,A,c,w.heap.size,w.heap.size+2,w.heap.size+3,w.heap.size+1⟩ ts:=⟨hs,hok,hn,Nat.le_succ _,by simp,by simp,by simp⟩;have HC:=aF (fun W h=>oQ _ ts HE (k+1) k (by omega) hlt W [] h);have HCB:Hid ((∀sl,NewT ts [] sl->∀i:Int,CovT ts sl k->copB ts k=true)/\(copB ts k=false->copB ts k=false)):=aF ⟨fun sl h i hc=>xCJ hok (sl:=sl) h hc,id⟩;have hmm:= @run_makeMap Tryz.prog;have hst:∀(a:Addr) (fn:Fn) (f c:Array Value) (W:World),(store a (.func fn f c)).run Tryz.prog W=stored Tryz.prog W a (.func fn f c) .plain:=fun a fn f c W=>run_store Tryz.prog W a (.func fn f c) _ rfl
 clear hs HE;go_enter Tryz.func154,Tryz.ntmps154
 go_wp2_with (go_at_call 190;refine (HC.out _ (xIL w ts.length A c _ _ _ _)).mono ?_;rintro e' w1 ⟨q,rfl,hq⟩;have HQ:=aF hq;clear hq)
 all_goals first
  | (exfalso;omega)
  | (go_ret
     rcases HQ.out with ⟨rfl,sl,h1,h2,h3⟩ | ⟨rfl,h1,h2⟩
     ·exact ⟨by rw [HCB.out.1 sl h1 0 h2];rfl,h3.low⟩
     ·exact ⟨by rw [HCB.out.2 h1];rfl,h2⟩)
end
section
open Go Go.RowKit
theorem zT (d:List Int):∀(l:List Int) (a k:Int),depF d a l=some k->∀i∈l,0<=i/\i<d.length
 | [],_,_,_=>by simp
 | i :: r,a,k,h=>by
   rw [depF] at h;by_cases hi:i<0
   ·rw [bA hi] at h;cases h
   rw [aZ hi] at h;cases hx:d[i.toNat]? with
   | none=>rw [hx] at h;cases h
   | some x=>
     rw [hx] at h;have hlt:i.toNat<d.length:=(List.getElem?_eq_some_iff.1 hx).1;intro j hj;rcases List.mem_cons.1 hj with rfl | hj
     ·exact ⟨by omega,by omega⟩
     ·exact zT d r _ k h j hj
def GoodT (m:Nat) (t:Ty):Prop:=(t.kind=3->0<=t.elem/\t.elem<m/\t.flds=[])/\(∀f∈t.flds,0<=f/\f<m)/\0<=t.kind/\t.kind<=4/\(t.kind=4->t.flds.length<=65535)/\(t.kind≠4->t.flds=[])
theorem xAU {prev:List Ty} {d:List Int} {n:Int} {t:Ty} (h:(tyE prev d n t).1=0):GoodT d.length t:=by
 unfold tyE at h;by_cases c1:t.kind<0\/4<t.kind
 ·rw [bA c1] at h;cases h
 rw [aZ c1] at h;by_cases c2:(t.kind≠3/\(t.mu=true\/t.reg≠0\/t.elem≠0))\/(t.kind≠4/\0<t.flds.length)
 ·rw [bA c2] at h;cases h
 rw [aZ c2] at h;by_cases c3:t.kind=3/\(t.reg<0\/n<=t.reg)
 ·rw [bA c3] at h;cases h
 rw [aZ c3] at h
 have hfl:t.kind≠4->t.flds=[]:=fun h4=>by
  have:¬0<t.flds.length:=fun h5=>c2 (Or.inr ⟨h4,h5⟩)
  exact List.length_eq_zero_iff.1 (by omega)
 cases hd:depF d 0 (if t.kind=3 then [t.elem] else t.flds) with
 | none=>rw [hd] at h;cases h
 | some k=>
   rw [hd] at h;simp only at h;have hin:=zT d _ _ _ hd;by_cases c4:t.kind=4/\(t.flds.length=0\/65535<t.flds.length)
   ·rw [bA c4] at h;cases h
   refine ⟨fun h3=>?_,fun f hf=>?_,by omega,by omega,fun h4=>by have:¬(t.flds.length=0\/65535<t.flds.length):=fun h=>c4 ⟨h4,h⟩;omega,hfl⟩
   ·rw [bA h3] at hin;have:=hin t.elem (by simp);exact ⟨this.1,this.2,hfl (by omega)⟩
   ·by_cases h3:t.kind=3
    ·rw [hfl (by omega)] at hf;cases hf
    ·rw [aZ h3] at hin;exact hin f hf
theorem kX (n:Int):∀(l prev:List Ty) (d:List Int),d.length=prev.length->typesE n prev d l=0->∀i (h:i<l.length),GoodT (prev.length+i) l[i]
 | [],_,_,_,_=>fun i h=>absurd h (by simp)
 | t :: r,prev,d,hd,h=>by
   rw [typesE] at h;by_cases h0:(tyE prev d n t).1=0
   ·rw [bA h0] at h;intro i hi;cases i with
    | zero=>rw [<- hd];exact xAU h0
    | succ i=>
      have:=kX n r (prev ++ [t]) (d ++ [(tyE prev d n t).2]) (by simp [hd]) h i (by simpa using hi);rw [bB,cG] at this;rw [show prev.length+(i+1)=prev.length+1+i by omega];simpa using this
   ·rw [aZ h0] at h;exact absurd h h0
theorem gV {n:Int} {l:List Ty} (h:typesC n l=0):l.length<=65535/\∀i (h:i<l.length),GoodT i l[i]:=by
 unfold typesC at h;by_cases h0:65535<l.length
 ·rw [bA h0] at h;cases h
 rw [aZ h0] at h;refine ⟨by omega,fun i hi=>?_⟩;have:=kX n l [] [] rfl h i hi;simpa using this
theorem wO {n:Int} {l:List Ty} (h:typesC n l=0):TyOk l:=fun i hi=>⟨((gV h).2 i hi).1,((gV h).2 i hi).2.1⟩
theorem lU {nt:Nat}:∀(l:List Lc) (seen:List ByteArray),localsE nt seen l=0->∀x∈l,isIdent x.name=true/\0<=x.type/\x.type<nt
 | [],_,_=>by simp
 | x :: r,seen,h=>by
   rw [localsE] at h;by_cases h1:isIdent x.name=false
   ·rw [bA h1] at h;cases h
   rw [aZ h1] at h;by_cases h2:memN x.name seen=true
   ·rw [bA h2] at h;cases h
   rw [aZ h2] at h;by_cases h3:x.type<0\/(nt:Int)<=x.type
   ·rw [bA h3] at h;cases h
   rw [aZ h3] at h;intro y hy;rcases List.mem_cons.1 hy with rfl | hy
   ·exact ⟨by simpa using h1,by omega,by omega⟩
   ·exact lU r _ h y hy
structure DeclOk (b:Bdy):Prop where
 name:isIdent b.name=true
 regs:namesC b.regions=0
 nreg:b.regions.length<=65535
 outl:pairsC b.regions.length b.outl=0
 nout:b.outl.length<=65535
 pairs:∀p∈b.outl,0<=p.1/\p.1<(b.regions.length:Int)/\0<=p.2/\p.2<(b.regions.length:Int)
 typC:typesC b.regions.length b.types=0
 ntyp:b.types.length<=65535
 good:∀i (h:i<b.types.length),GoodT i b.types[i]
 tyok:TyOk b.types
 nloc:b.locals.length<=65535
 locs:∀x∈b.locals,isIdent x.name=true/\0<=x.type/\x.type<b.types.length
 locE:localsE b.types.length [] b.locals=0
 args:0<=b.args/\b.args<=b.locals.length
 nblk:0<b.blocks.length/\b.blocks.length<=65535
 okay:Okay b.types b.locals
theorem mA:∀{l:List Int},firstE l=0->∀x∈l,x=0
 | [],_=>by simp
 | e :: r,h=>by
   rw [firstE] at h;by_cases he:e=0
   ·rw [bA he] at h;intro x hx;rcases List.mem_cons.1 hx with rfl | hx
    ·exact he
    ·exact mA h x hx
   ·rw [aZ he] at h;exact absurd h he
theorem dS {b:Bdy} (h:declC b=0):DeclOk b:=by
 unfold declC at h;by_cases h1:isIdent b.name=false
 ·rw [bA h1] at h;cases h
 rw [aZ h1] at h;by_cases h2:firstE [namesC b.regions,pairsC b.regions.length b.outl,typesC b.regions.length b.types,localsC b]=0
 ·rw [bA h2] at h;have g:=mA h2;have gn:=g (namesC b.regions) (by simp);have gp:=g (pairsC b.regions.length b.outl) (by simp);have gt:=g (typesC b.regions.length b.types) (by simp);have gl:=g (localsC b) (by simp)
  have hr:b.regions.length<=65535:=by
   unfold namesC at gn;by_cases c:65535<b.regions.length
   ·rw [bA c] at gn;cases gn
   ·omega
  have hp:=nA gp;have ht:=gV gt;unfold localsC at gl;by_cases c:65535<b.locals.length
  ·rw [bA c] at gl;cases gl
  rw [aZ c] at gl;by_cases c2:localsE b.types.length [] b.locals=0
  ·rw [bA c2] at gl;by_cases c3:b.args<0\/(b.locals.length:Int)<b.args
   ·rw [bA c3] at gl;cases gl
   by_cases c4:b.blocks.length=0\/65535<b.blocks.length
   ·rw [bA c4] at h;cases h
   have hl:=lU _ _ c2;refine ⟨by simpa using h1,gn,hr,gp,hp.1,hp.2,gt,ht.1,ht.2,wO gt,by omega,hl,c2,by omega,by omega,?_,?_,?_⟩
   ·intro t htm h3;obtain ⟨i,hi,rfl⟩:=List.mem_iff_getElem.1 htm;obtain ⟨g1,g2,-⟩:=(ht.2 i hi).1 h3;exact ⟨g1,by omega⟩
   ·intro t htm f hf;obtain ⟨i,hi,rfl⟩:=List.mem_iff_getElem.1 htm;obtain ⟨g1,g2⟩:=(ht.2 i hi).2.1 f hf;exact ⟨g1,by omega⟩
   ·exact fun x hx=>⟨(hl x hx).2.1,(hl x hx).2.2⟩
  ·rw [aZ c2] at gl;exact absurd gl c2
 ·rw [aZ h2] at h;exact absurd h h2
end
section
open Go Go.RowKit Go.Maps
theorem xBU (l:List Int) (x:Int) (A:Option Addr) (c:Nat) (w:World) (hs:Slc 1 RInt w A c l):
 Calls Tryz.prog 203 #[.slice A l.length c,.int .i64 x] w fun e' w'=>e' = .returned (.bool (decide (x∈l)))/\w'=w:=by
 have hle:=hs.le;have hbig:=hs.big;obtain ⟨R,hR⟩:∃R,decide (x∈l)=R:=⟨_,rfl⟩;rw [hR];have HR:=aF hR;have HS:=aF hs;clear hR hs;go_enter Tryz.func203,Tryz.ntmps203
 go_wp2_with fail
 go_loop [5] (fun v=>∃k:Nat,k<=l.length/\v = .int .i64 k/\Hid (R=decide (x∈l.drop k))) (fun v=>l.length - (intOf v).toNat)
 case atStart=>exact ⟨0,by omega,rfl,aF HR.out.symm⟩
 case round=>
  obtain ⟨k,hk,rfl,hr⟩:=hrel;by_cases hlt:k<l.length
  ·have hd:=cV hlt;obtain ⟨b,o,rfl,hb,hx⟩:=HS.out.sl.at_ hlt;obtain ⟨y,hy⟩:∃y,l[k]=y:=⟨_,rfl⟩;rw [hy] at hd hx;have x0:w.cell? ⟨b,o+k,none⟩=some (.int .i64 y):=by simpa [RInt] using hx
   clear hx hy;by_cases h0:y=x
   ·have HN:Hid (R=true):=aF (by rw [hr.out,hd,h0];simp);have e1:(y == x)=true:=by simp [h0]
    clear hd hr h0;go_wp2_with fail
    all_goals first
     | (exfalso;omega)
     | (go_ret;exact ⟨by rw [HN.out];rfl,rfl⟩)
   ·have HN:Hid (R=decide (x∈l.drop (k+1))):=aF (by rw [hr.out,hd];simp [Ne.symm h0]);have e1:(y == x)=false:=by simp [h0]
    clear hd hr h0;go_wp2_with fail
    go_round
    case rel=>exact ⟨k+1,by omega,by go_num,HN⟩
    case measure=>simp [intOf];omega
  ·have HN:Hid (R=false):=aF (by rw [hr.out,bE (by omega)];simp);clear hr;go_wp2_with fail
   go_ret;exact ⟨by rw [HN.out];rfl,rfl⟩
def putR (x:Int) (s:List Int) (p:Int × Int):List Int:=if p.1=x/\p.2∉s then s ++ [p.2] else s
theorem xCI (pairs:List (Int × Int)) (x:Int) (s:List Int):nextR pairs x s=pairs.foldl (putR x) s:=rfl
theorem xT {pairs:List (Int × Int)} {n:Nat} (hr:∀p∈pairs,0<=p.1/\p.1<(n:Int)/\0<=p.2/\p.2<(n:Int)) {s:List Int} {x:Int} {p:Int × Int} (hp:p∈pairs) (hn:s.Nodup) (hs:∀y∈s,0<=y/\y<(n:Int)):
 (putR x s p).Nodup/\∀y∈putR x s p,0<=y/\y<(n:Int):=by
 unfold putR;by_cases h:p.1=x/\p.2∉s
 ·rw [bA h];constructor
  ·rw [List.nodup_append];refine ⟨hn,by simp,fun a ha b hb=>?_⟩;rw [bS] at hb;subst hb;exact fun e=>h.2 (e ▸ ha)
  ·intro y hy;rcases List.mem_append.1 hy with hy | hy
   ·exact hs y hy
   ·rw [bS] at hy;subst hy;exact ⟨(hr p hp).2.2.1,(hr p hp).2.2.2⟩
 ·rw [aZ h];exact ⟨hn,hs⟩
theorem xCD (x:Int) (s:List Int) (p:Int × Int) (i:Nat) (y:Int) (h:s[i]?=some y):(putR x s p)[i]?=some y:=by
 unfold putR;split
 ·rw [List.getElem?_append_left (List.getElem?_eq_some_iff.1 h).1];exact h
 ·exact h
theorem iF (pairs:List (Int × Int)) (n:Nat) (a b:Int) (A:Option Addr) (c:Nat) (w:World) (hs:Slc 2 RPr w A c pairs) (hr:∀p∈pairs,0<=p.1/\p.1<(n:Int)/\0<=p.2/\p.2<(n:Int)) (hn:n<=65536):
 Calls Tryz.prog 171 #[.slice A pairs.length c,.int .i64 n,.int .i64 a,.int .i64 b] w fun e' w'=>e' = .returned (.bool (outB pairs n a b))/\Below w.heap.size w w':=by
 have hle:=hs.le;have hbig:=hs.big;have HS:=aF hs;clear hs;by_cases hab:0<=a/\a<(n:Int)/\0<=b/\b<(n:Int)
 case neg=>
  have HF:Hid (outB pairs n a b=false):=aF (by unfold outB;rw [bA (by omega)]);rw [HF.out];go_enter Tryz.func171,Tryz.ntmps171
  go_wp2_with fail
  all_goals first
   | (exfalso;omega)
   | (go_ret;exact ⟨rfl,aX _ _⟩)
 case pos=>
  obtain ⟨ha0,ha1,hb0,hb1⟩:=hab;have HQ:Hid (outB pairs n a b=outF pairs b (n+1) [a] 0):=aF (by unfold outB;rw [aZ (by omega)];rfl);generalize outB pairs n a b=q at HQ ⊢;obtain ⟨i0,hi,hz0,hz1,hz2⟩:=info_parts dW;have e1:¬a<0:=by omega
  have e2:¬(n:Int)<=a:=by omega
  have e3:¬b<0:=by omega
  have e4:¬(n:Int)<=b:=by omega
  go_enter Tryz.func171,Tryz.ntmps171
  go_wp2_with fail
  have HOWN0:Hid ((w.alloc (.cells #[.int .i64 a] 3)).ownsRow w.heap.size 3 1 (.slice (some ⟨w.heap.size,0,none⟩) 1 1) [a].length ([a].map (Value.int .i64))):=aF ⟨by simp,.inr ⟨w.heap.size,1,#[.int .i64 a],rfl,aY _,Array.getElem?_push_size,by simp,by unfold maxLen;omega,by simp,by simp⟩⟩;go_loopg [9,10] (n+1) (fun gk v iv wr=>∃(s:List Int) (i:Nat),gk+i=n+1/\iv = .int .i64 i/\Hid (s.Nodup)/\Hid (∀y∈s,0<=y/\y<(n:Int))/\Hid (wr.ownsRow w.heap.size 3 1 v s.length (s.map (Value.int .i64)))/\Hid (Below w.heap.size w wr)/\w.heap.size+1<=wr.heap.size/\Hid (q=outF pairs b gk s i))
  case atStart=>exact ⟨[a],0,by omega,rfl,aF (by simp),aF (by simp;omega),HOWN0,aF ((aX _ _).alloc (aY _) _),by simp,HQ⟩
  case round=>
   clear HOWN0 HQ;obtain ⟨s,i,hgk,rfl,HND,HRG,HOWN,HBL,hsz,HQ⟩:=hrel;have hlen:=eQ n s HND.out HRG.out;obtain ⟨B,c2,rfl,hsl⟩:=dB HOWN.out;have hsle:=hsl.le;have hsbig:=hsl.big;by_cases hlt:i<s.length
   ·obtain ⟨g,o,rfl,hg,hx⟩:=hsl.sl.at_ hlt;obtain ⟨x,hxx⟩:∃x,s[i]=x:=⟨_,rfl⟩;have hsi:s[i]?=some x:=(by rw [bD hlt,hxx]);rw [hxx] at hx;have x0:wr.cell? ⟨g,o+i,none⟩=some (.int .i64 x):=(by simpa [RInt] using hx);obtain ⟨m,rfl⟩:∃m,gk=m+1:=⟨gk - 1,by omega⟩;clear hx hxx hsl;by_cases hxb:x=b
    ·have HF:Hid (q=true):=aF (by rw [HQ.out,outF,hsi];simp [hxb]);have e5:(x == b)=true:=by simp [hxb]
     clear HQ hsi hxb;go_wp2_with fail
     go_ret;exact ⟨by rw [HF.out];rfl,HBL.out⟩
    have e5:(x == b)=false:=by simp [hxb]
    have HQ2:Hid (q=outF pairs b m ((pairs.take pairs.length).foldl (putR x) s) (i+1)):=aF (by rw [HQ.out,outF,hsi,cA];simp only;rw [aZ hxb,xCI]);have HSI:=aF hsi;clear HQ hsi hxb;go_wp2_with fail
    go_loopg [9,11] pairs.length (fun gj v jv wr2=>∃(s2:List Int) (j:Nat),gj=pairs.length - j/\j<=pairs.length/\jv = .int .i64 j/\Hid (s2=(pairs.take j).foldl (putR x) s)/\Hid (s2[i]?=some x)/\Hid (s2.Nodup)/\Hid (∀y∈s2,0<=y/\y<(n:Int))/\Hid (wr2.ownsRow w.heap.size 3 1 v s2.length (s2.map (Value.int .i64)))/\Hid (Below w.heap.size w wr2)/\w.heap.size+1<=wr2.heap.size)
    case atStart=>exact ⟨s,0,by omega,by omega,rfl,aF rfl,HSI,HND,HRG,HOWN,HBL,hsz⟩
    case round=>
     clear HSI HND HRG HOWN HBL x0 e5 hsz hlt hsle hsbig hg hlen;obtain ⟨s2,j,hgj,hj,rfl,HS2,HSI,HND,HRG,HOWN,HBL,hsz⟩:=hrel;have hlen:=eQ n s2 HND.out HRG.out;obtain ⟨B2,c3,rfl,hsl⟩:=dB HOWN.out;have hsle:=hsl.le;have hsbig:=hsl.big;by_cases hlt:j<pairs.length
     ·have hil:i<s2.length:=(List.getElem?_eq_some_iff.1 HSI.out).1;have HIL:=aF hil;obtain ⟨g2,o2,rfl,hg2,hx⟩:=hsl.sl.at_ hil
      have hx2:RInt wr wr.heap.size g2 (o2+i * 1) x:=by
       have hxx:=HSI.out;rw [bD hil] at hxx;injection hxx with hxx
       exact hxx ▸ hx
      have x0:wr.cell? ⟨g2,o2+i,none⟩=some (.int .i64 x):=(by simpa [RInt] using hx2);obtain ⟨bp,op,rfl,hbp,hp⟩:=(HS.out.keep RPr.keeps HBL.out).sl.at_ hlt;have HTK:Hid ((pairs.take (j+1)).foldl (putR x) s=putR x s2 pairs[j]):=aF (by rw [bF hlt,List.foldl_append,<- HS2.out];rfl);have HPM:=aF (xT hr (x:=x) (bN hlt) HND.out HRG.out);have HPP:=aF (xCD x s2 pairs[j] i x HSI.out);obtain ⟨p,hpp⟩:∃p,pairs[j]=p:=⟨_,rfl⟩;rw [hpp] at hp HTK HPM HPP;obtain ⟨p1,p2⟩:=p;obtain ⟨y0,y1⟩:=hp;simp only at y0 y1;have HSL:=aF (xBU s2 p2 (some ⟨g2,o2,none⟩) c3 wr.drew (hsl.keep RInt.keeps ((aX _ _).drew)));clear hx hx2 hpp hsl hil;go_wp2_with fail
      have hS:wr.drew.cell? ⟨bp,op+j * 2,none⟩=some (.int .i64 p1)/\wr.drew.cell? ⟨bp,op+j * 2+1,none⟩=some (.int .i64 p2)/\wr.drew.cell? ⟨g2,o2+i,none⟩=some (.int .i64 x):=⟨y0,y1,x0⟩;have hil:=HIL.out;by_cases hpx:p1=x
      ·have e6:(p1 == x)=true:=by simp [hpx]
       refine cO (S:=fun X=>X.cell? ⟨bp,op+j * 2,none⟩=some (.int .i64 p1)/\X.cell? ⟨bp,op+j * 2+1,none⟩=some (.int .i64 p2)/\X.cell? ⟨g2,o2+i,none⟩=some (.int .i64 x)) [0,1,2,3,4,5,6,7,8,9,10,11,12,13,14,15,16,17,18,19] (by kernel_rfl) ?_;(iterate 9 (refine cP (v:=?_) ?_ hS ?_;rotate_left;(next=>(rintro X ⟨s0,s1,s2'⟩;(try simp only [aI]);go_simp;rfl));simp only [aM]));try rw [e6]
       (iterate 2 (refine cP (v:=?_) ?_ hS ?_;rotate_left;(next=>(rintro X ⟨s0,s1,s2'⟩;(try simp only [aI]);go_simp;rfl));simp only [aM]));(iterate 6 (refine cP (v:=?_) ?_ hS ?_;rotate_left;(next=>(rintro X ⟨s0,s1,s2'⟩;(try simp only [aI]);go_simp;rfl));simp only [aM]));(refine cS (fun K1 hK1=>?_);simp only [aM];rw [bA (by rfl)];go_simp);refine HSL.out.mono ?_;rintro e' w3 ⟨rfl,hw⟩;obtain rfl:=hw.symm;refine hK1.out _ _ (fun _=>hS) ?_;(iterate 2 (refine cP (v:=?_) ?_ hS ?_;rotate_left;(next=>(rintro X ⟨s0,s1,s2'⟩;(try simp only [aI]);go_simp;rfl));simp only [aM]));refine cZ ?_;by_cases hm:p2∈s2
       ·have hmd:decide (p2∈s2)=true:=(by simp [hm]);have HP:Hid (putR x s2 (p1,p2)=s2):=aF (by unfold putR;rw [aZ (fun h=>h.2 hm)]);rw [hmd];clear hmd hm;go_wp2_with fail
        go_roundg (pairs.length - (j+1))
        case measure=>omega
        case rel=>exact ⟨s2,j+1,rfl,by omega,by go_num,aF (by rw [HTK.out,HP.out]),HSI,HND,HRG,aF (HOWN.out.drew),aF (HBL.out.drew),hsz⟩
       ·have hmd:decide (p2∈s2)=false:=(by simp [hm]);have HP:Hid (putR x s2 (p1,p2)=s2 ++ [p2]):=aF (by unfold putR;rw [bA ⟨hpx,hm⟩]);have hln:=eQ n _ HPM.out.1 HPM.out.2;rw [HP.out,bB,cG] at hln;rw [hmd];clear hmd hm;go_wp2_with (at_builtin;refine wpList_append_own _ rfl _ _ 58 rfl w.heap.size 3 i0 (.int .i64 0) 1 8 Tryz.underlying58 hi hz0 hz1 hz2 rfl (by decide) _ _ _ rfl (HOWN.out.drew.alloc _) ⟨_,0,none⟩ 1 1 [.int .i64 p2] rfl rfl (eD _ _ _ _ (by first | rfl | simp)) (ints_oneCell .i64 [p2]) (by unfold maxLen;omega) (by omega) (by simp;omega) ?_;intro v4 w4 hown4 hg4 _)
        have hs4:=hg4.size;go_roundg (pairs.length - (j+1))
        case measure=>omega
        case rel=>exact ⟨s2 ++ [p2],j+1,rfl,by omega,by go_num,aF (by rw [HTK.out,HP.out]),aF (HP.out ▸ HPP.out),aF (HP.out ▸ HPM.out.1),aF (HP.out ▸ HPM.out.2),aF (by rw [bB,cG,bU];exact hown4),aF ((HBL.out.drew.alloc (by simp;omega) _).grown hg4 (by simp;omega) (fun k hk=>(HOWN.out.lt k hk).1)),by simp at hs4;omega⟩
      ·have e6:(p1 == x)=false:=by simp [hpx]
       have HP:Hid (putR x s2 (p1,p2)=s2):=aF (by unfold putR;rw [aZ (fun h=>hpx h.1)]);refine cO (S:=fun X=>X.cell? ⟨bp,op+j * 2,none⟩=some (.int .i64 p1)/\X.cell? ⟨bp,op+j * 2+1,none⟩=some (.int .i64 p2)/\X.cell? ⟨g2,o2+i,none⟩=some (.int .i64 x)) [0,1,2,3,4,5,6,7,8,9,10,11,12,13,14,15,16,17,18,19] (by kernel_rfl) ?_;(iterate 9 (refine cP (v:=?_) ?_ hS ?_;rotate_left;(next=>(rintro X ⟨s0,s1,s2'⟩;(try simp only [aI]);go_simp;rfl));simp only [aM]));try rw [e6]
       (iterate 2 (refine cP (v:=?_) ?_ hS ?_;rotate_left;(next=>(rintro X ⟨s0,s1,s2'⟩;(try simp only [aI]);go_simp;rfl));simp only [aM]));(iterate 8 (refine cY (v:=undef) (by kernel_rfl) (fun _ _ _ h=>h) (Or.inr ⟨by rfl,rfl⟩) hS ?_;simp only [aM]));((refine cP (v:=?_) ?_ hS ?_;rotate_left;(next=>(rintro X ⟨s0,s1,s2'⟩;(try simp only [aI]);go_simp;rfl));simp only [aM]))
       refine cZ ?_;go_wp2_with fail
       go_roundg (pairs.length - (j+1))
       case measure=>omega
       case rel=>exact ⟨s2,j+1,rfl,by omega,by go_num,aF (by rw [HTK.out,HP.out]),HSI,HND,HRG,aF (HOWN.out.drew),aF (HBL.out.drew),hsz⟩
     ·have HF:Hid (q=outF pairs b m s2 (i+1)):=aF (by rw [HQ2.out,HS2.out,show j=pairs.length by omega]);clear HS2 HSI;go_wp2_with fail
      go_roundg m
      case measure=>omega
      case rel=>exact ⟨s2,i+1,by omega,by go_num,HND,HRG,HOWN,HBL,hsz,HF⟩
   ·have HF:Hid (q=false):=aF (by
     rw [HQ.out];cases gk with
     | zero=>rfl
     | succ m=>rw [outF,cE (by omega)])
    clear HQ;go_wp2_with fail
    go_ret;exact ⟨by rw [HF.out];rfl,HBL.out⟩
end
section
open Go.RowKit Go.Maps Go.WideMaps
def pairL (s t:Int):Lit:= .string (keyBytes [.int .i64 s,.int .i64 t])
theorem pX {s t s' t':Int} (h1:(Lit.int .i64 s).wf=true) (h2:(Lit.int .i64 t).wf=true) (h3:(Lit.int .i64 s').wf=true) (h4:(Lit.int .i64 t').wf=true) (h:pairL s t=pairL s' t'):s=s'/\t=t':=by
 unfold pairL at h;injection h with h
 have:=keyBytes_inj (l:=[.int .i64 s,.int .i64 t]) (l':=[.int .i64 s',.int .i64 t']) (by simp [Alike,Lit.sameKind]) (by simp [Lit.keyWf,h1,h2]) (by simp [Lit.keyWf,h3,h4]) h;simp at this;exact this
def Memo (P:Program) (k:TypeId) (w:World) (b:Nat) (S:Int->Int->Bool) (ks:List (Int × Int)):Prop:=
 ∃D:DataW Value,w.ownsMap P k (fun v=>some (.held v,[])) b ks.length D/\
  (∀s t,(Lit.int .i64 s).wf=true->(Lit.int .i64 t).wf=true->(s,t)∈ks->∀z,D.atKey (pairL s t) z = .held (.bool (S s t)))/\
  (∀s t,(Lit.int .i64 s).wf=true->(Lit.int .i64 t).wf=true->(s,t)∉ks->∀z,D.atKey (pairL s t) z=z)/\
  (∀p∈ks,(Lit.int .i64 p.1).wf=true/\(Lit.int .i64 p.2).wf=true)
section
variable {P:Program} {k:TypeId} {w:World} {b:Nat} {S:Int->Int->Bool} {ks:List (Int × Int)}
theorem Memo.made (w:World) (P:Program) (k:TypeId) (S:Int->Int->Bool):Memo P k (w.alloc (.map #[] 0)) w.heap.size S []:=
 ⟨.map [],World.ownsMap_made w P k _,fun _ _ _ _ h=>absurd h (by simp),fun _ _ _ _ _ _=>rfl,by simp⟩
theorem Memo.lt (h:Memo P k w b S ks):b<w.heap.size:=by
 obtain ⟨D,h1,_⟩:=h;exact h1.lt
theorem Memo.block {w':World} (h:Memo P k w b S ks) (hb:w'.heap[b]?=w.heap[b]?):Memo P k w' b S ks:=by
 obtain ⟨D,⟨es,clock,h1,h3,h4,h5⟩,h2⟩:=h;exact ⟨D,⟨es,clock,hb.trans h1,h3,h4,h5⟩,h2⟩
theorem Memo.below {w':World} (h:Memo P k w b S ks) (hb:Below w.heap.size w w'):Memo P k w' b S ks:=h.block (hb.block b h.lt)
theorem Memo.alloc (h:Memo P k w b S ks) (o:Obj):Memo P k (w.alloc o) b S ks:=h.below ((aX _ _).alloc (aY _) _)
theorem Memo.drew (h:Memo P k w b S ks):Memo P k w.drew b S ks:=h
theorem Memo.look {t e:TypeId} (h:Memo P k w b S ks) (A:ArrKey P k e 2) (he:P.underlying e=some (.int .i64)) (hsz:∃m,P.types.size=m+1) {te:TypeId} (ht:P.underlying t=some (.map k te)) (hz:(zeroValue te).run P w = .ok (.bool false) w)
 {x y:Int} (hx:(Lit.int .i64 x).wf=true) (hy:(Lit.int .i64 y).wf=true):
 (Instr.lookup t (.map (some b)) (.agg #[.int .i64 x,.int .i64 y]) true).run P w = .ok (.tuple #[.bool (if (x,y)∈ks then S x y else false),.bool (decide ((x,y)∈ks))]) w:=by
 obtain ⟨D,h1,h2,h3,h4⟩:=h;obtain ⟨v,ps,hrun,hv⟩:=h1.look_ok (Keyed.of_law A.law) ht hz rfl (keyOf_pair A he hsz hx hy);change _=some (D.atKey (pairL x y) _,ps) at hv;rw [hrun];change Result.ok (Value.tuple #[v,.bool (has D (pairL x y))]) w=_;by_cases hm:(x,y)∈ks
 ·rw [h2 x y hx hy hm] at hv;injection hv with hv
  injection hv with hv
  injection hv with hv
  rw [hv,has_true_of_atKey (h2 x y hx hy hm),bA hm];simp [hm]
 ·rw [h3 x y hx hy hm] at hv;injection hv with hv
  injection hv with hv
  injection hv with hv
  rw [hv,has_false_of_atKey (h3 x y hx hy hm),aZ hm];simp [hm]
theorem Memo.store {t e:TypeId} (h:Memo P k w b S ks) (A:ArrKey P k e 2) (he:P.underlying e=some (.int .i64)) (hsz:∃m,P.types.size=m+1) {te:TypeId} (ht:P.underlying t=some (.map k te)) (hn:ks.length<maxLen)
 {x y:Int} (hx:(Lit.int .i64 x).wf=true) (hy:(Lit.int .i64 y).wf=true):
 ∃w',(Instr.mapUpdate t (.map (some b)) (.agg #[.int .i64 x,.int .i64 y]) (.bool (S x y))).run P w = .ok () w'/\Memo P k w' b S ((x,y) :: ks)/\w.grownBy w' (some b):=by
 obtain ⟨D,h1,h2,h3,h4⟩:=h;obtain ⟨w',hrun,g1,g2⟩:=h1.update (Keyed.of_law A.law) ht hn (keyOf_pair A he hsz hx hy) (d:= .held (.bool (S x y))) rfl;have hkl:WideAt.IsKeyLit (pairL x y):=trivial;refine ⟨w',hrun,⟨_,g1,?_,?_,?_⟩,g2⟩
 ·intro s t hs ht hm z;by_cases hp:pairL s t=pairL x y
  ·obtain ⟨rfl,rfl⟩:=pX hs ht hx hy hp;exact atKey_put_same h1.isMap hkl _ _
  ·have hne:¬(s=x/\t=y):=fun e=>hp (by rw [e.1,e.2])
   refine (atKey_put_other hp _ _).trans (h2 s t hs ht ?_ z);rcases List.mem_cons.1 hm with e | hm
   ·injection e with e1 e2
    exact absurd ⟨e1,e2⟩ hne
   ·exact hm
 ·intro s t hs ht hm z;have hp:pairL s t≠pairL x y:=fun e=>hm (by obtain ⟨rfl,rfl⟩:=pX hs ht hx hy e;simp)
  exact (atKey_put_other hp _ _).trans (h3 s t hs ht (fun h=>hm (List.mem_cons_of_mem _ h)) z)
 ·intro p hp;rcases List.mem_cons.1 hp with rfl | hp
  ·exact ⟨hx,hy⟩
  ·exact h4 p hp
end
theorem fI {P:Program} (w:World) {ops:Array Oper} {rest:List Oper} {o:Oper} {a:Act} {Q:Exit->Act->World->Prop}
 (hg:o.guard=none) (m x:Operand) (t:TypeId) (hop:o.op=Op.lookup t m x true)
 (k e te:TypeId) (A:ArrKey P k e 2) (he:P.underlying e=some (.int .i64)) (hsz:∃m,P.types.size=m+1) (ht:P.underlying t=some (.map k te)) (hz:(zeroValue te).run P w = .ok (.bool false) w) (b:Nat) (S:Int->Int->Bool) (ks:List (Int × Int))
 (hm:a.eval m = .map (some b)) (hown:Memo P k w b S ks) (s u:Int) (hx:a.eval x = .agg #[.int .i64 s,.int .i64 u]) (h1:(Lit.int .i64 s).wf=true) (h2:(Lit.int .i64 u).wf=true)
 (hK:wpList P ops Q rest (a.put o.dst (.tuple #[.bool (if (s,u)∈ks then S s u else false),.bool (decide ((s,u)∈ks))])) w):
 wpList P ops Q (o :: rest) a w:=by
 refine wpList_plain hg fun K' hK'=>?_
 unfold Oper.wp;simp [execOp,hop,hm,hx,hown.look A he hsz ht hz h1 h2,Result.andThen];simp at hK;exact hK' _ _ hK
theorem dD {P:Program} (w:World) {ops:Array Oper} {rest:List Oper} {o:Oper} {a:Act} {Q:Exit->Act->World->Prop}
 (hg:o.guard=none) (m x v:Operand) (t:TypeId) (hop:o.op=Op.mapUpdate t m x v)
 (k e te:TypeId) (A:ArrKey P k e 2) (he:P.underlying e=some (.int .i64)) (hsz:∃m,P.types.size=m+1) (ht:P.underlying t=some (.map k te)) (b:Nat) (S:Int->Int->Bool) (ks:List (Int × Int))
 (hm:a.eval m = .map (some b)) (hown:Memo P k w b S ks) (hn:ks.length<maxLen) (s u:Int) (hx:a.eval x = .agg #[.int .i64 s,.int .i64 u]) (h1:(Lit.int .i64 s).wf=true) (h2:(Lit.int .i64 u).wf=true) (hv:a.eval v = .bool (S s u))
 (hK:∀w',Memo P k w' b S ((s,u) :: ks)->w.grownBy w' (some b)->wpList P ops Q rest (a.put o.dst undef) w'):
 wpList P ops Q (o :: rest) a w:=by
 refine wpList_plain hg fun K' hK'=>?_
 obtain ⟨w',hrun,r1,r2⟩:=hown.store A he hsz ht hn h1 h2;unfold Oper.wp;simp [execOp,hop,hm,hx,hv,hrun,Result.andThen];exact hK' _ _ (hK w' r1 r2)
theorem yC (n:Nat) (nodupL:∀(n:Nat) (l:List Int),l.Nodup->(∀x∈l,0<=x/\x<n)->l.length<=n) (ks:List (Int × Int)) (h:ks.Nodup) (hr:∀p∈ks,0<=p.1/\p.1<(n:Int)/\0<=p.2/\p.2<(n:Int)):ks.length<=n * n:=by
 have h1:(ks.map (fun p=>p.1 * (n:Int)+p.2)).Nodup:=by
  unfold List.Nodup;rw [List.pairwise_map];refine List.Pairwise.imp_of_mem ?_ h;intro a b ha hb hne heq;obtain ⟨a1,a2,a3,a4⟩:=hr a ha;obtain ⟨b1,b2,b3,b4⟩:=hr b hb
  have e2:a.2=b.2:=by
   have:=congrArg (· % (n:Int)) heq;simp only [Int.mul_add_emod_self_right] at this;rwa [Int.emod_eq_of_lt a3 a4,Int.emod_eq_of_lt b3 b4] at this
  have e1:a.1=b.1:=by
   have hn:(n:Int)≠0:=by omega
   have:a.1 * (n:Int)=b.1 * (n:Int):=by rw [e2] at heq;omega
   exact Int.eq_of_mul_eq_mul_right hn this
  exact hne (by cases a;cases b;simp_all)
 have:=nodupL (n * n) _ h1 (fun x hx=>by
  obtain ⟨p,hp,rfl⟩:=List.mem_map.1 hx;obtain ⟨a1,a2,a3,a4⟩:=hr p hp;have g1:0<=p.1 * (n:Int):=Int.mul_nonneg a1 (by omega);have g2:p.1 * (n:Int)<=((n:Int) - 1) * (n:Int):=Int.mul_le_mul_of_nonneg_right (by omega) (by omega);have g3:((n:Int) - 1) * (n:Int)=(n:Int) * n - n:=by rw [Int.sub_mul,Int.one_mul]
  refine ⟨by omega,?_⟩;push_cast
  omega)
 rwa [cF] at this
end
section
open Go Go.RowKit Go.Maps Go.WideMaps
theorem arrP:ArrKey Tryz.prog 77 3 2:=⟨Tryz.underlying77,by kernel_rfl,by kernel_rfl,by kernel_rfl⟩
theorem progN:∃m,Tryz.prog.types.size=m+1:=⟨Tryz.prog.types.size - 1,by kernel_rfl⟩
structure SubE where
 w0:World
 A:Option Addr
 c:Nat
 pk:Nat
 pl:Nat
 pr:Nat
 pf:Nat
 M:Nat
 r:Nat
def SubE.F (E:SubE):Value:= .func (.func 212) #[] #[.pointer (some ⟨E.pk,0,none⟩),.pointer (some ⟨E.pl,0,none⟩),.pointer (some ⟨E.pr,0,none⟩),.pointer (some ⟨E.pf,0,none⟩)]
structure SubE.Ok (E:SubE) (b:Bdy):Prop where
 ty:Slc 5 RTy E.w0 E.A E.c b.types
 ok:DeclOk b
 rel:Rel3 E.w0 E.r b.regions.length (relL b.outl)
 M:E.w0.heap.size<=E.M
 k:E.M≠E.pk
 l:E.M≠E.pl
 r:E.M≠E.pr
 f:E.M≠E.pf
structure SubE.St (E:SubE) (b:Bdy) (W:World) (ks:List (Int × Int)):Prop where
 low:Below E.w0.heap.size E.w0 W
 k:W.cell? ⟨E.pk,0,none⟩=some (.map (some E.M))
 l:W.cell? ⟨E.pl,0,none⟩=some (.slice E.A b.types.length E.c)
 r:W.cell? ⟨E.pr,0,none⟩=some (.pointer (some ⟨E.r,0,none⟩))
 f:W.cell? ⟨E.pf,0,none⟩=some E.F
 memo:Memo Tryz.prog 77 W E.M (subB b) ks
 nd:ks.Nodup
 rng:∀p∈ks,0<=p.1/\p.1<(b.types.length:Int)/\0<=p.2/\p.2<(b.types.length:Int)
theorem SubE.St.len {E:SubE} {b:Bdy} {W:World} {ks:List (Int × Int)} (h:E.St b W ks):ks.length<=b.types.length * b.types.length:=yC _ eQ ks h.nd h.rng
theorem SubE.St.lt {E:SubE} {b:Bdy} {W:World} {ks:List (Int × Int)} (h:E.St b W ks) (hE:E.Ok b):ks.length<maxLen:=by
 have h1:=h.len;have h2:=hE.ok.ntyp;have h3:b.types.length * b.types.length<=65535 * 65535:=Nat.mul_le_mul h2 h2;unfold maxLen;omega
theorem SubE.St.keep {E:SubE} {b:Bdy} {W W':World} {ks:List (Int × Int)} (h:E.St b W ks) (hb:Below W.heap.size W W'):E.St b W' ks:=
 ⟨h.low.trans (hb.mono h.low.size),cM hb h.k,cM hb h.l,cM hb h.r,cM hb h.f,h.memo.below hb,h.nd,h.rng⟩
theorem SubE.St.put {E:SubE} {b:Bdy} {W W':World} {ks:List (Int × Int)} (h:E.St b W ks) (hE:E.Ok b) {s t:Int} (hi:(s,t)∉ks) (hr:0<=s/\s<(b.types.length:Int)/\0<=t/\t<(b.types.length:Int))
 (hm:Memo Tryz.prog 77 W' E.M (subB b) ((s,t) :: ks)) (hg:W.grownBy W' (some E.M)):E.St b W' ((s,t) :: ks):=by
 have hc:∀(p:Nat) (v:Value),E.M≠p->W.cell? ⟨p,0,none⟩=some v->W'.cell? ⟨p,0,none⟩=some v:=fun p v hne hv=>eH hg hv (by simpa using (Ne.symm hne))
 refine ⟨h.low.trans (eF hg hE.M h.low.size),hc _ _ hE.k h.k,hc _ _ hE.l h.l,hc _ _ hE.r h.r,hc _ _ hE.f h.f,hm,List.nodup_cons.2 ⟨hi,h.nd⟩,fun x hx=>?_⟩;rcases List.mem_cons.1 hx with rfl | hx
 ·exact hr
 ·exact h.rng x hx
def SubE.Q (E:SubE) (b:Bdy) (W:World) (ks:List (Int × Int)) (s t:Int) (W':World):Prop:=
 ∃ks',E.St b W' ks'/\(∀p∈ks',p∈ks\/p.1+p.2<=s+t)/\W.grownBy W' (some E.M)
def SubE.Ph (E:SubE) (b:Bdy) (W:World) (ks:List (Int × Int)) (n:Int) (W':World):Prop:=
 ∃ks',E.St b W' ks'/\(∀p∈ks',p∈ks\/p.1+p.2<n)/\W.grownBy W' (some E.M)
theorem SubE.Ph.start {E:SubE} {b:Bdy} {W W1:World} {ks:List (Int × Int)} (h:E.St b W ks) (hb:Below W.heap.size W W1) (n:Int):E.Ph b W1 ks n W1:=
 ⟨ks,h.keep hb,fun _p hp=>Or.inl hp,eP (aX _ _) _⟩
theorem SubE.Ph.keep {E:SubE} {b:Bdy} {W W1 W2:World} {ks:List (Int × Int)} {n:Int} (h:E.Ph b W ks n W1) (hb:Below W1.heap.size W1 W2):E.Ph b W ks n W2:=by
 obtain ⟨k1,h1,h2,h3⟩:=h;exact ⟨k1,h1.keep hb,h2,h3.trans (eP hb _)⟩
theorem SubE.Ph.call {E:SubE} {b:Bdy} {W W1 W2:World} {ks ks1:List (Int × Int)} {n s t:Int} (_h1:E.St b W1 ks1) (h2:∀p∈ks1,p∈ks\/p.1+p.2<n) (h3:W.grownBy W1 (some E.M)) (hq:E.Q b W1 ks1 s t W2) (hlt:s+t<n):E.Ph b W ks n W2:=by
 obtain ⟨k2,q1,q2,q3⟩:=hq;refine ⟨k2,q1,fun p hp=>?_,h3.trans q3⟩;rcases q2 p hp with h | h
 ·exact h2 p h
 ·exact Or.inr (by omega)
theorem SubE.fin {E:SubE} {b:Bdy} {W W1 wz w9:World} {ks kz:List (Int × Int)} {s t:Int} (hE:E.Ok b) (hM:(s,t)∉ks) (hr:0<=s/\s<(b.types.length:Int)/\0<=t/\t<(b.types.length:Int)) (hB1:Below W.heap.size W W1)
 (hstz:E.St b wz kz) (hnz:∀p∈kz,p∈ks\/p.1+p.2<s+t) (hgz:W1.grownBy wz (some E.M)) (hm9:Memo Tryz.prog 77 w9 E.M (subB b) ((s,t) :: kz)) (hg9:wz.grownBy w9 (some E.M)):E.Q b W ks s t w9:=by
 refine ⟨(s,t) :: kz,hstz.put hE (fun h=>?_) hr hm9 hg9,fun p hp=>?_,((eP hB1 _).trans hgz).trans hg9⟩
 ·rcases hnz _ h with h | h
  ·exact hM h
  ·exact absurd h (by simp)
 ·rcases List.mem_cons.1 hp with rfl | hp
  ·exact Or.inr (Int.le_refl _)
  ·rcases hnz p hp with h | h
   ·exact Or.inl h
   ·exact Or.inr (by omega)
def SubE.Rec (E:SubE) (b:Bdy) (m:Nat):Prop:=∀s t:Nat,s+t<m->s<b.types.length->t<b.types.length->∀W ks,E.St b W ks->
 Calls Tryz.prog 212 #[.int .i64 s,.int .i64 t,.pointer (some ⟨E.pk,0,none⟩),.pointer (some ⟨E.pl,0,none⟩),.pointer (some ⟨E.pr,0,none⟩),.pointer (some ⟨E.pf,0,none⟩)] W fun e' W'=>e' = .returned (.bool (subB b s t))/\E.Q b W ks s t W'
def ty0:Obj:= .cells #[.int .i64 0,.bool false,.int .i64 0,.int .i64 0,.slice none 0 0] 81
def tyL (t:Ty) (A:Option Addr) (c:Nat):List Value:=[.int .i64 t.kind,.bool t.mu,.int .i64 t.reg,.int .i64 t.elem,.slice A t.flds.length c]
theorem oD (W:World) (ga gb:Nat) (a b:Ty) (A B:Option Addr) (c d:Nat) (h:(ga=W.heap.size/\gb=W.heap.size+1)\/(ga=W.heap.size+1/\gb=W.heap.size)):
 Below W.heap.size W ((((W.alloc ty0).alloc ty0).setCells ga 0 (tyL a A c)).setCells gb 0 (tyL b B d))/\(∀i v,(tyL a A c)[i]?=some v->((((W.alloc ty0).alloc ty0).setCells ga 0 (tyL a A c)).setCells gb 0 (tyL b B d)).cell? ⟨ga,i,none⟩=some v)/\(∀i v,(tyL b B d)[i]?=some v->((((W.alloc ty0).alloc ty0).setCells ga 0 (tyL a A c)).setCells gb 0 (tyL b B d)).cell? ⟨gb,i,none⟩=some v):=by
 have t0:(W.alloc ty0).there W.heap.size 0 5:=dM W _ _ _ 5 rfl (by simp);have t1:((W.alloc ty0).alloc ty0).there W.heap.size 0 5:=World.there_alloc t0 _;have t2:((W.alloc ty0).alloc ty0).there (W.heap.size+1) 0 5:=dM _ _ _ _ 5 (by simp) (by simp);have ta:((W.alloc ty0).alloc ty0).there ga 0 (tyL a A c).length:=by rcases h with ⟨h,-⟩ | ⟨h,-⟩ <;> rw [h] <;> assumption
 have tb:((W.alloc ty0).alloc ty0).there gb 0 (tyL b B d).length:=by rcases h with ⟨-,h⟩ | ⟨-,h⟩ <;> rw [h] <;> assumption
 refine ⟨dN (by omega) _ _ _ (dN (by omega) _ _ _ aH),fun i v hi=>?_,fun i v hi=>?_⟩
 ·have:=World.rangeAt_setCells_apart (World.rangeAt_setCells_same _ _ _ _ ta) gb 0 (tyL b B d) (Or.inl (by omega)) i v hi;simpa using this
 ·have:=World.rangeAt_setCells_same _ _ _ _ (World.there_setCells tb ga 0 (tyL a A c)) i v hi;simpa using this
end
section
open Go Go.RowKit
theorem wD (m k:Nat) (x y:Int) (n:Nat) (A B:Option Addr) (c d:Nat) (w:World) (h1:w.cell? ⟨n,1,none⟩=some (.slice A m c)) (h2:w.cell? ⟨n,2,none⟩=some (.slice B k d)):
 Calls Tryz.prog 153 #[.int .i64 x,.int .i64 y,.pointer (some ⟨n,0,none⟩)] w fun e' w'=>e' = .returned (.bool (decide ((m:Int)=x) && decide ((k:Int)=y)))/\w'=w:=by
 go_enter Tryz.func153,Tryz.ntmps153
 go_wp2_with fail
 all_goals
  go_ret;refine ⟨?_,rfl⟩;refine congrArg (fun b=>Ending.returned (Value.bool b)) ?_;clear h1 h2;grind
theorem eE (s:ByteArray):s.toList.isEmpty=decide (s.size=0):=by
 rw [bR,Lib.toList_data,List.isEmpty_iff,<- List.length_eq_zero_iff,decide_eq_true_eq];show s.data.toList.length=0↔s.data.size=0;rw [Array.length_toList]
theorem fQ (t:Trm) (A B C:Option Addr) (c d f:Nat) (w:World):
 Calls Tryz.prog 118 #[.agg (tmC t A c B d C f).toArray] w fun e' w'=>e' = .returned (.bool (fieldsT t))/\Below w.heap.size w w':=by
 have HZ:=aF (fun W=>eV t.place C f W);obtain ⟨k,tg,args,pl,nm⟩:=t;simp only at HZ;unfold tmC;simp only;obtain ⟨m,hm⟩:∃m,tg.length=m:=⟨_,rfl⟩;obtain ⟨j,hj⟩:∃j,args.length=j:=⟨_,rfl⟩;have HQ:=aF (show fieldsT ⟨k,tg,args,pl,nm⟩=_ by unfold fieldsT;simp only;rw [hm,hj]);rw [hm,hj];generalize fieldsT ⟨k,tg,args,pl,nm⟩=q at HQ ⊢;generalize zeroP pl=z at HZ HQ;clear hm hj;have hmf:∀(fn:Fn) (first cap:Array Value) (w:World),(Instr.makeFunc fn first cap).run Tryz.prog w = .ok (.func fn first cap) w:=fun _ _ _ _=>rfl
 go_enter Tryz.func118,Tryz.ntmps118
 go_wp2_with (first | (go_at_call 115;refine (HZ.out _).mono ?_;rintro e' w1 ⟨rfl,hb1⟩;have y:=cN (cU w _ _) hb1;obtain ⟨y0,y1,y2,y3,y4,y5⟩:=aR y;clear y) | (go_at_call 153;refine (wD m j _ _ _ A B c d _ (cU w _ _ 1 _ rfl) (cU w _ _ 2 _ rfl)).mono ?_;rintro e' _ ⟨rfl,rfl⟩))
 all_goals
  go_ret;refine ⟨?_,by first | exact ((aX _ _).alloc (aY _) _).trans (hb1.mono (by simp)) | exact aH⟩;have HF:=HQ.out;try clear y0 y1 y2 y3 y4 y5
  try clear hb1
  clear HQ HZ hmf;rw [HF];first | refine congrArg (fun b=>Ending.returned (Value.bool b)) ?_ | (refine congrArg Ending.returned ?_)
  have hn:=eE nm;try rw [hn]
  clear hn;generalize decide (nm.size=0)=u;by_cases g1:m=1 <;> by_cases g2:m=2 <;> by_cases g3:j=1 <;> grind
theorem pF (W:World) (x y:Int) (T:TypeId) (k:Nat) (hk:k=W.heap.size):Slc 1 RInt (W.alloc (.cells #[.int .i64 x,.int .i64 y] T)) (some ⟨k,0,none⟩) 2 [x,y]:=by
 subst hk;refine ⟨fun _=>⟨_,_,rfl,by simp,fun i q hi=>?_⟩,by simp,by omega⟩;show (W.alloc _).cell? ⟨W.heap.size,0+i * 1,none⟩=_;rw [World.cell?_alloc_at _ _ _ _ (by simp),Nat.zero_add,Nat.mul_one];match i,hi with
 | 0,hi=>simp at hi;subst hi;rfl
 | 1,hi=>simp at hi;subst hi;rfl
 | i+2,hi=>simp at hi
theorem cT {w w1:World} {l1 l2:List Value} {t1 t2:TypeId} (hb:Below ((w.alloc (.cells l1.toArray t1)).alloc (.cells l2.toArray t2)).heap.size ((w.alloc (.cells l1.toArray t1)).alloc (.cells l2.toArray t2)) w1):
 (∀i v,l1[i]?=some v->w1.cell? ⟨w.heap.size,i,none⟩=some v)/\(∀i v,l2[i]?=some v->w1.cell? ⟨w.heap.size+1,i,none⟩=some v):=by
 refine ⟨fun i v hi=>cM hb ?_,fun i v hi=>cM hb ?_⟩
 ·exact cM ((aX _ _).alloc (aY _) _) (cU w l1 t1 i v hi)
 ·have:=cU (w.alloc (.cells l1.toArray t1)) l2 t2 i v hi;rwa [bI] at this
theorem gB (b:Bdy) (bh:BH) (r:Nat) (p:Plc) (A:Option Addr) (c:Nat) (w:World) (H:BdAt w b bh) (hp:Slc 2 RPj w A c p.proj) (hok:Okay b.types b.locals):
 Calls Tryz.prog 116 #[.agg (ckC b bh r).toArray,.agg #[.int .i64 p.loc,.slice A p.proj.length c]] w fun e' w'=>e' = .returned (.tuple #[.int .i64 (tyB b p).1,.int .i64 (writE b p)])/\Below w.heap.size w w':=by
 have HT:=aF (fun W (hb:Below w.heap.size w W)=>eM b bh r p A c W (H.keep hb) (hp.keep RPj.keeps hb) hok);have HM:=aF (fun W (hb:Below w.heap.size w W)=>lS b.types b.locals p.loc p.proj bh.A3 bh.A4 A bh.c3 bh.c4 c W (H.keep hb).typ (H.keep hb).loc (hp.keep RPj.keeps hb) hok);change Hid (∀W,Below w.heap.size w W->Calls Tryz.prog 149 _ W fun e' w'=>e' = .returned (.bool (mutB b p))/\Below W.heap.size W w') at HM;have HQ:Hid (writE b p=if (tyB b p).2≠0 then (tyB b p).2 else fail22 (!mutB b p)):=aF rfl;generalize hq:writE b p=q at HQ ⊢;clear hq;generalize tyB b p=t at HT HQ ⊢;generalize mutB b p=mu at HM HQ;obtain ⟨t,e⟩:=t;simp only at HT HQ ⊢;clear H hp hok;unfold ckC at HT ⊢;by_cases he:e=0
 ·subst he;have HF:Hid (firstE [0,fail22 !mu]=q):=aF (by rw [HQ.out];cases mu <;> rfl);clear HQ;go_enter Tryz.func116,Tryz.ntmps116
  go_wp2_with (first
   | (go_at_call 123;refine (HT.out _ (bel2 _ _ _)).mono ?_;rintro e' w1 ⟨rfl,hb1⟩;have HB:=aF ((bel2 _ _ _).trans (hb1.mono (bel2 _ _ _).size));obtain ⟨y,z⟩:=cT hb1;obtain ⟨-,-,-,y3,y4⟩:=aQ y;obtain ⟨z0,z1⟩:=aN z;clear y z hb1)
   | (go_at_call 149;refine (HM.out _ HB.out).mono ?_;rintro e' w2 ⟨rfl,hb2⟩;have HB2:=aF (HB.out.trans (hb2.mono HB.out.size));clear hb2)
   | (go_at_call 120;refine (dY _ _).mono ?_;rintro e' w3 ⟨rfl,hw⟩;obtain rfl:=hw.symm)
   | (go_at_call 109;refine (fP [0,fail22 !mu] _ 2 _ (pF _ _ _ _ _ rfl)).mono ?_;rintro e' w4 ⟨rfl,hw⟩;obtain rfl:=hw.symm))
  go_ret2
  exact ⟨by rw [<- HF.out];rfl,HB2.out.alloc HB2.out.size _⟩
 ·have HF:Hid (firstE [e,fail22 false]=q):=aF (by rw [HQ.out,bA he];show (if e=0 then _ else e)=e;rw [aZ he]);have e1:(e == 0)=false:=by simp [he]
  clear HQ he HM;go_enter Tryz.func116,Tryz.ntmps116
  go_wp2_with (first
   | (go_at_call 123;refine (HT.out _ (bel2 _ _ _)).mono ?_;rintro e' w1 ⟨rfl,hb1⟩;have HB:=aF ((bel2 _ _ _).trans (hb1.mono (bel2 _ _ _).size));obtain ⟨y,z⟩:=cT hb1;obtain ⟨-,-,-,y3,y4⟩:=aQ y;obtain ⟨z0,z1⟩:=aN z;clear y z hb1)
   | (go_at_call 120;refine (dY _ _).mono ?_;rintro e' w3 ⟨rfl,hw⟩;obtain rfl:=hw.symm)
   | (go_at_call 109;refine (fP [e,fail22 false] _ 2 _ (pF _ _ _ _ _ rfl)).mono ?_;rintro e' w4 ⟨rfl,hw⟩;obtain rfl:=hw.symm))
  go_ret2
  exact ⟨by rw [<- HF.out];rfl,HB.out.alloc HB.out.size _⟩
theorem nH (b:Bdy) (bh:BH) (r:Nat) (o:Opd) (A:Option Addr) (c:Nat) (w:World) (H:BdAt w b bh) (hp:Slc 2 RPj w A c o.place.proj) (hok:Okay b.types b.locals)
 (hty:o.kind≠2->o.kind≠3->o.kind≠4->(tyB b o.place).2=0):
 Calls Tryz.prog 121 #[.agg (ckC b bh r).toArray,.agg (opC o A c).toArray] w fun e' w'=>e' = .returned (.int .i64 (kindO b o))/\Below w.heap.size w w':=by
 have HT:=aF (fun W (hb:Below w.heap.size w W)=>eM b bh r o.place A c W (H.keep hb) (hp.keep RPj.keeps hb) hok);have HQ:Hid (kindO b o=if o.kind=2 then 2 else if o.kind=3 then 1 else if o.kind=4 then 0 else kindT b (tyB b o.place).1):=aF rfl;generalize kindO b o=q at HQ ⊢;have HS:=aF H.typ;have hin:=fL hok (l:=o.place.loc) (ps:=o.place.proj);change (tyB b o.place).2=0->0<=(tyB b o.place).1/\(tyB b o.place).1<b.types.length at hin;generalize tyB b o.place=t at HT HQ hty hin;obtain ⟨t,e⟩:=t;simp only at HQ hty hin;clear H hp hok;unfold ckC at HT ⊢;unfold opC;obtain ⟨A3,h3⟩:∃x,bh.A3=x:=⟨_,rfl⟩;rw [h3] at HS HT ⊢;clear h3;by_cases h2:o.kind=2
 ·have HF:Hid (q=2):=aF (by rw [HQ.out,bA h2]);rw [h2];clear HQ HT HS hty hin;go_enter Tryz.func121,Tryz.ntmps121
  go_wp2_with fail
  go_ret;exact ⟨by rw [HF.out];rfl,aH⟩
 by_cases h3:o.kind=3
 ·have HF:Hid (q=1):=aF (by rw [HQ.out,aZ h2,bA h3]);rw [h3];clear HQ HT HS hty hin;go_enter Tryz.func121,Tryz.ntmps121
  go_wp2_with fail
  go_ret;exact ⟨by rw [HF.out];rfl,aH⟩
 by_cases h4:o.kind=4
 ·have HF:Hid (q=0):=aF (by rw [HQ.out,aZ h2,aZ h3,bA h4]);rw [h4];clear HQ HT HS hty hin;go_enter Tryz.func121,Tryz.ntmps121
  go_wp2_with fail
  go_ret;exact ⟨by rw [HF.out];rfl,aH⟩
 obtain rfl:=hty h2 h3 h4;obtain ⟨g1,g2⟩:=hin rfl;obtain ⟨k,rfl⟩:=bG g1;have hlt:k<b.types.length:=by omega
 obtain ⟨bb,oo,rfl,hbb,hx⟩:=HS.out.sl.at_ hlt;have HF:Hid (q=b.types[k].kind):=aF (by rw [HQ.out,aZ h2,aZ h3,aZ h4,kindT];simp [hlt]);generalize b.types[k]=ty at hx HF;obtain ⟨r1,-⟩:=hx;have e2:(o.kind == 2)=false:=by simp [h2]
 have e3:(o.kind == 3)=false:=by simp [h3]
 have e4:(o.kind == 4)=false:=by simp [h4]
 clear HQ HS hty hin h2 h3 h4 g1;go_enter Tryz.func121,Tryz.ntmps121
 go_wp2_with (go_at_call 123;refine (HT.out _ (bel2 _ _ _)).mono ?_;rintro e' w1 ⟨rfl,hb1⟩;have HB:=aF ((bel2 _ _ _).trans (hb1.mono (bel2 _ _ _).size));obtain ⟨y,-⟩:=cT hb1;have y3:=y 3 _ rfl;have x1:=cM HB.out r1;clear y hb1)
 go_ret;exact ⟨by rw [HF.out];rfl,HB.out⟩
theorem yQ (ts:List Ty) (A:Option Addr) (c:Nat) (w:World) (hs:Slc 5 RTy w A c ts):
 Calls Tryz.prog 65 #[.slice A ts.length c] w fun e' w'=>(∃q,e' = .returned (.int .i64 q)/\(q<=0->ts.length<=200))/\Below w.heap.size w w':=by
 have hle:=hs.le;have hbig:=hs.big;go_enter Tryz.func65,Tryz.ntmps65
 go_wp2
 go_loopw [3,8] (fun n v wr=>∃k m:Nat,k<=ts.length/\k<=m/\m<=200/\n = .int .i64 m/\v = .int .i64 k/\Below w.heap.size w wr) (fun _ v _=>ts.length - (intOf v).toNat)
 case atStart=>exact ⟨0,0,by omega,by omega,by omega,rfl,rfl,aX _ _⟩
 case round=>
  obtain ⟨k,m,hk,hkm,hm,rfl,rfl,hB⟩:=hrel;by_cases hlt:k<ts.length
  ·obtain ⟨b1,o1,rfl,hb1,r1⟩:=hs.sl.at_ hlt;obtain ⟨r1,r2,r3,r4,A2,c2,r5,r6,r7,r8⟩:=RTy.keeps _ _ _ w.heap.size _ _ _ (aY _) hb1 hB r1;generalize ts[k]=x at *;clear r8 hs;have hBs:=hB.size;go_wp2
   all_goals first
    | (go_ret
       exact ⟨⟨1,rfl,by omega⟩,aH⟩)
    | (go_roundw
       case rel=>
        refine ⟨k+1,m+(1+if 500<x.flds.length then 500 else x.flds.length),by omega,by omega,?_,?_,by go_num,aH⟩
        ·grind
        ·congr 1;grind
       case measure=>simp [intOf];omega)
  ·go_wp2
   go_ret;exact ⟨⟨0,rfl,fun _=>by omega⟩,hB⟩
end
end Go.Proofs.YtmknfbfppmkcfaaGreatDoor
