/-
  Parts of the proof: V29 V20 V21 V30 V28 Memo V31 V32 V32T V22 Own.
-/
import Derived.Test.YtmknfbfppmkcfaaGreatDoorPP0
import Derived.Test.YtmknfbfppmkcfaaGreatDoorPP3
import Derived.Test.YtmknfbfppmkcfaaGreatDoorPP4
import Derived.Test.YtmknfbfppmkcfaaGreatDoorPP2
import Derived.WideKeyPair
import Derived.WideKeyArr
namespace Go.Proofs.YtmknfbfppmkcfaaGreatDoor
set_option maxRecDepth 100000
set_option maxHeartbeats 16000000
section
open Go Go.RowKit Go.Maps
def FineT (ts:List Ty) (sl:List Int) (x:Int):Prop:=0<=x/\∀(h:x.toNat<ts.length),ts[x.toNat].kind≠3->∀f∈ts[x.toNat].flds,CovT ts sl f
theorem FineT.mono {ts:List Ty} {sl sl':List Int} {x:Int} (h:FineT ts sl x) (hs:∀y∈sl,y∈sl'):FineT ts sl' x:=
 ⟨h.1,fun hl hk f hf=>(h.2 hl hk f hf).mono hs⟩
def NewT (ts:List Ty) (sl sl':List Int):Prop:=(∀x∈sl,x∈sl')/\∀x∈sl',x∈sl\/FineT ts sl' x
theorem NewT.refl (ts:List Ty) (sl:List Int):NewT ts sl sl:=⟨fun _ h=>h,fun _ h=>Or.inl h⟩
theorem NewT.trans {ts:List Ty} {a b c:List Int} (h:NewT ts a b) (k:NewT ts b c):NewT ts a c:=
 ⟨fun x hx=>k.1 x (h.1 x hx),fun x hx=>by
   rcases k.2 x hx with hb | hb
   ·rcases h.2 x hb with ha | ha
    ·exact Or.inl ha
    ·exact Or.inr (ha.mono k.1)
   ·exact Or.inr hb⟩
theorem NewT.mark {ts:List Ty} {a b:List Int} {i:Nat} (hi:i<ts.length) (h:NewT ts ((i:Int) :: a) b) (hf:∀f∈ts[i].flds,CovT ts b f):NewT ts a b:=
 ⟨fun x hx=>h.1 x (List.mem_cons_of_mem _ hx),fun x hx=>by
   rcases h.2 x hx with ha | ha
   ·rcases List.mem_cons.1 ha with rfl | ha
    ·exact Or.inr ⟨by omega,fun _ _ f hff=>hf f (by simpa using hff)⟩
    ·exact Or.inl ha
   ·exact Or.inr ha⟩
theorem vD {ts:List Ty} (hok:TyOk ts) {sl:List Int} (h:NewT ts [] sl) {i:Int} (hc:CovT ts sl i):copB ts i=true:=
 oP hok (fun x hx hl h0 hk f hf=>by
  rcases h.2 x hx with hn | hn
  ·exact absurd hn (by simp)
  ·exact hn.2 hl hk f hf) (i.toNat+1) i (by omega) hc
theorem dQ {w w':World} {row:Option Nat} (hg:w.grownBy w' row) {p:Addr} {v:Value} (h:w.cell? p=some v) (hne:some p.block≠row):w'.cell? p=some v:=
 (World.cell?_of_block (hg.block _ (cD _ _ h) hne)).trans h
theorem eA {w w':World} (h:Below w.heap.size w w') (row:Option Nat):w.grownBy w' row:=
 ⟨h.os,h.tape,h.output,h.size,fun i hi _=>h.block i hi⟩
structure CopE where
 w0:World
 A:Option Addr
 c:Nat
 pl:Nat
 ps:Nat
 pc:Nat
 M:Nat
structure CopE.Ok (E:CopE) (ts:List Ty):Prop where
 ty:Slc 5 RTy E.w0 E.A E.c ts
 tyok:TyOk ts
 n:ts.length<=65535
 M:E.w0.heap.size<=E.M
 l:E.M≠E.pl
 s:E.M≠E.ps
 c:E.M≠E.pc
structure CopE.St (E:CopE) (n:Nat) (W:World) (sl:List Int) (F:Value):Prop where
 low:Below E.w0.heap.size E.w0 W
 l:W.cell? ⟨E.pl,0,none⟩=some (.slice E.A n E.c)
 s:W.cell? ⟨E.ps,0,none⟩=some (.map (some E.M))
 c:W.cell? ⟨E.pc,0,none⟩=some F
 own:OwnB Tryz.prog 3 4 W E.M sl.length (i64F (inF sl))
 nd:sl.Nodup
 rng:∀x∈sl,0<=x/\x<(n:Int)
theorem CopE.St.len {E:CopE} {n:Nat} {W:World} {sl:List Int} {F:Value} (h:E.St n W sl F):sl.length<=n:=fA n sl h.nd h.rng
theorem CopE.St.keep {E:CopE} {n:Nat} {W W':World} {sl:List Int} {F:Value} (h:E.St n W sl F) (hb:Below W.heap.size W W'):E.St n W' sl F:=
 ⟨h.low.trans (hb.mono h.low.size),cJ hb h.l,cJ hb h.s,cJ hb h.c,h.own.below hb,h.nd,h.rng⟩
theorem CopE.St.put {E:CopE} {ts:List Ty} {n:Nat} {W W':World} {sl:List Int} {F:Value} (h:E.St n W sl F) (hE:E.Ok ts) {i:Int} (hi:i∉sl) (hr:0<=i/\i<(n:Int))
 (hown:OwnB Tryz.prog 3 4 W' E.M (sl.length+1) (i64F (inF (i :: sl)))) (hg:W.grownBy W' (some E.M)):E.St n W' (i :: sl) F:=by
 have hc:∀(p:Nat) (v:Value),E.M≠p->W.cell? ⟨p,0,none⟩=some v->W'.cell? ⟨p,0,none⟩=some v:=fun p v hne hv=>
  dQ hg hv (by simpa using (Ne.symm hne))
 refine ⟨h.low.trans (dP hg hE.M h.low.size),hc _ _ hE.l h.l,hc _ _ hE.s h.s,hc _ _ hE.c h.c,hown,List.nodup_cons.2 ⟨hi,h.nd⟩,fun x hx=>?_⟩;rcases List.mem_cons.1 hx with rfl | hx
 ·exact hr
 ·exact h.rng x hx
def CopE.Q (E:CopE) (ts:List Ty) (F:Value) (sl:List Int) (i:Int) (q:Bool) (W':World):Prop:=
 (q=true/\∃sl',NewT ts sl sl'/\CovT ts sl' i/\E.St ts.length W' sl' F)\/(q=false/\copB ts i=false/\Below E.w0.heap.size E.w0 W')
end
section
open Go Go.RowKit
theorem eR (m:Nat):((m:Int) == 0)=decide (m=0):=by
 rw [bR];simp
theorem eH (p:Plc) (A:Option Addr) (c:Nat) (w:World):
 Calls Tryz.prog 115 #[.agg #[.int .i64 p.loc,.slice A p.proj.length c]] w fun e' w'=>e' = .returned (.bool (zeroP p))/\Below w.heap.size w w':=by
 obtain ⟨m,hm⟩:∃m,p.proj.length=m:=⟨_,rfl⟩;unfold zeroP;rw [hm];obtain ⟨q,hq⟩:∃q,(decide (p.loc=0) && decide (m=0))=q:=⟨_,rfl⟩;rw [hq];have HQ:=aF hq;clear hq hm;go_enter Tryz.func115,Tryz.ntmps115
 go_wp2_with fail
 all_goals
  go_ret;refine ⟨?_,aH⟩;rw [<- HQ.out]
  first
   | (simp_all;done)
   | (simp_all;exact eR m)
theorem dL (x:Bool) (w:World):Calls Tryz.prog 120 #[.bool x] w fun e' w'=>e' = .returned (.int .i64 (fail22 x))/\w'=w:=by
 cases x
 all_goals
  go_enter Tryz.func120,Tryz.ntmps120
  go_wp2_with fail
  go_ret;exact ⟨rfl,rfl⟩
def ckC (b:Bdy) (bh:BH) (r:Nat):List Value:=[.string b.name,.slice bh.A1 b.regions.length bh.c1,.slice bh.A2 b.outl.length bh.c2,.slice bh.A3 b.types.length bh.c3,.slice bh.A4 b.locals.length bh.c4,.int .i64 b.args,.slice bh.A5 b.blocks.length bh.c5,.pointer (some ⟨r,0,none⟩)]
theorem dX (b:Bdy) (bh:BH) (r:Nat) (p:Plc) (A:Option Addr) (c:Nat) (w:World) (H:BdAt w b bh) (hp:Slc 2 RPj w A c p.proj) (hok:Okay b.types b.locals):
 Calls Tryz.prog 123 #[.agg (ckC b bh r).toArray,.agg #[.int .i64 p.loc,.slice A p.proj.length c]] w fun e' w'=>e' = .returned (.tuple #[.int .i64 (tyB b p).1,.int .i64 (tyB b p).2])/\Below w.heap.size w w':=by
 have HT:=aF (fun W (hb:Below w.heap.size w W)=>pA b.types b.locals p.loc p.proj bh.A3 bh.A4 A bh.c3 bh.c4 c W (H.keep hb).typ (H.keep hb).loc (hp.keep RPj.keeps hb) hok);change Hid (∀W,Below w.heap.size w W->Calls Tryz.prog 156 _ W fun e' w'=>e' = .returned (.tuple #[.int .i64 (tyB b p).1,.int .i64 (tyB b p).2])/\Below W.heap.size W w') at HT;generalize tyB b p=q at HT ⊢;clear H hp hok;unfold ckC;go_enter Tryz.func123,Tryz.ntmps123
 go_wp2_with (go_at_call 156;refine (HT.out _ (bel2 _ _ _)).mono ?_;rintro e' w1 ⟨rfl,hb1⟩)
 go_ret2
 exact ⟨rfl,(bel2 _ _ _).trans (hb1.mono (bel2 _ _ _).size)⟩
def rvC (r:Rvl) (A:Option Addr) (c:Nat) (B:Option Addr) (d:Nat):List Value:=[.int .i64 r.kind,.int .i64 r.op,.int .i64 r.reg,.bool r.mu,.int .i64 r.place.loc,.slice A r.place.proj.length c,.slice B r.args.length d]
def tmC (t:Trm) (A:Option Addr) (c:Nat) (B:Option Addr) (d:Nat) (C:Option Addr) (e:Nat):List Value:=[.int .i64 t.kind,.slice A t.targets.length c,.slice B t.args.length d,.int .i64 t.place.loc,.slice C t.place.proj.length e,.string t.name]
def opC (o:Opd) (A:Option Addr) (c:Nat):List Value:=[.int .i64 o.kind,.int .i64 o.place.loc,.slice A o.place.proj.length c,.int .i64 o.n]
theorem cP (w:World) (l:List Value) (t:TypeId):∀i v,l[i]?=some v->(w.alloc (.cells l.toArray t)).cell? ⟨w.heap.size,i,none⟩=some v:=fun i v hi=>by
 rw [World.cell?_alloc_at _ _ _ _ (by simp)];simpa using hi
theorem cK {W w1:World} {n:Nat} {l:List Value} (h:∀i v,l[i]?=some v->W.cell? ⟨n,i,none⟩=some v) (hb:Below W.heap.size W w1):∀i v,l[i]?=some v->w1.cell? ⟨n,i,none⟩=some v:=fun i v hi=>cJ hb (h i v hi)
theorem iA (m k:Nat):((m:Int) == (k:Int))=decide (m=k):=by
 rw [bR];simp;omega
theorem oX (r:Rvl) (A B:Option Addr) (c d:Nat) (w:World):
 Calls Tryz.prog 150 #[.agg (rvC r A c B d).toArray] w fun e' w'=>e' = .returned (.bool (unusedR r))/\Below w.heap.size w w':=by
 have HZ:=aF (fun W=>eH r.place A c W);obtain ⟨k,op,rg,mu,pl,args⟩:=r;simp only at HZ;unfold rvC;simp only;obtain ⟨m,hm⟩:∃m,args.length=m:=⟨_,rfl⟩;have HQ:Hid (unusedR ⟨k,op,rg,mu,pl,args⟩=(let plain:=decide (rg=0) && !mu && zeroP pl;if k=0 then plain && decide (op=0) && decide (m=1) else if k=1 then decide (op=0) && decide (m=0) else if k=2 then plain && decide (m=1) else if k=3 then plain && decide (m=2) else plain && decide (op=0))):=aF (by unfold unusedR;rw [<- hm]);rw [hm];generalize unusedR ⟨k,op,rg,mu,pl,args⟩=q at HQ ⊢;generalize zeroP pl=z at HZ HQ;clear hm;have n1:=aF (iA m 1);have n0:=aF (eR m);have n2:=aF (iA m 2);rcases (show k=0\/k=1\/k=2\/k=3\/(k≠0/\k≠1/\k≠2/\k≠3) by omega) with rfl | rfl | rfl | rfl | ⟨h0,h1,h2,h3⟩
 case inr.inr.inr.inr=>
  have e0:(k == 0)=false:=by simp [h0]
  have e1:(k == 1)=false:=by simp [h1]
  have e2:(k == 2)=false:=by simp [h2]
  have e3:(k == 3)=false:=by simp [h3]
  have HF:Hid (q=(decide (rg=0) && !mu && z && decide (op=0))):=aF (by rw [HQ.out];simp only;rw [aZ h0,aZ h1,aZ h2,aZ h3]);clear HQ h0 h1 h2 h3;go_enter Tryz.func150,Tryz.ntmps150
  go_wp2_with (go_at_call 115;refine (HZ.out _).mono ?_;rintro e' w1 ⟨rfl,hb1⟩;have y:=cK (cP w _ _) hb1;obtain ⟨y0,y1,y2,y3,y4,y5,y6⟩:=aS y;clear y)
  all_goals
   go_ret;refine ⟨?_,by first | exact ((aX _ _).alloc (aY _) _).trans (hb1.mono (by simp)) | exact aH⟩;rw [HF.out];show Ending.returned (.bool _)=_;clear HF HZ;refine congrArg (fun b=>Ending.returned (Value.bool b)) ?_;try clear y0 y1 y2 y3 y4 y5 y6
   first | (clear e0 e1 e2 e3;have ho:(op == 0)=decide (op=0):=by (rw [bR];simp);rw [ho];simp_all;done) | (clear e0 e1 e2 e3;grind)
 ·have HF:=aF HQ.out;clear HQ;go_enter Tryz.func150,Tryz.ntmps150
  go_wp2_with (go_at_call 115;refine (HZ.out _).mono ?_;rintro e' w1 ⟨rfl,hb1⟩;have y:=cK (cP w _ _) hb1;obtain ⟨y0,y1,y2,y3,y4,y5,y6⟩:=aS y;clear y)
  all_goals
   go_ret;refine ⟨?_,by first | exact ((aX _ _).alloc (aY _) _).trans (hb1.mono (by simp)) | exact aH⟩;have m1:=n1.out;have m0:=n0.out;have m2:=n2.out;rw [HF.out];first | (simp_all;done) | (clear HZ;simp_all;done) | (cases mu <;> cases z <;> simp_all;done) | (clear HZ;grind)
 ·have HF:=aF HQ.out;clear HQ;go_enter Tryz.func150,Tryz.ntmps150
  go_wp2_with (go_at_call 115;refine (HZ.out _).mono ?_;rintro e' w1 ⟨rfl,hb1⟩;have y:=cK (cP w _ _) hb1;obtain ⟨y0,y1,y2,y3,y4,y5,y6⟩:=aS y;clear y)
  all_goals
   go_ret;refine ⟨?_,by first | exact ((aX _ _).alloc (aY _) _).trans (hb1.mono (by simp)) | exact aH⟩;have m1:=n1.out;have m0:=n0.out;have m2:=n2.out;rw [HF.out];first | (simp_all;done) | (clear HZ;simp_all;done) | (cases mu <;> cases z <;> simp_all;done) | (clear HZ;grind)
 ·have HF:=aF HQ.out;clear HQ;go_enter Tryz.func150,Tryz.ntmps150
  go_wp2_with (go_at_call 115;refine (HZ.out _).mono ?_;rintro e' w1 ⟨rfl,hb1⟩;have y:=cK (cP w _ _) hb1;obtain ⟨y0,y1,y2,y3,y4,y5,y6⟩:=aS y;clear y)
  all_goals
   go_ret;refine ⟨?_,by first | exact ((aX _ _).alloc (aY _) _).trans (hb1.mono (by simp)) | exact aH⟩;have m1:=n1.out;have m0:=n0.out;have m2:=n2.out;rw [HF.out];first | (simp_all;done) | (clear HZ;simp_all;done) | (cases mu <;> cases z <;> simp_all;done) | (clear HZ;grind)
 ·have HF:=aF HQ.out;clear HQ;go_enter Tryz.func150,Tryz.ntmps150
  go_wp2_with (go_at_call 115;refine (HZ.out _).mono ?_;rintro e' w1 ⟨rfl,hb1⟩;have y:=cK (cP w _ _) hb1;obtain ⟨y0,y1,y2,y3,y4,y5,y6⟩:=aS y;clear y)
  all_goals
   go_ret;refine ⟨?_,by first | exact ((aX _ _).alloc (aY _) _).trans (hb1.mono (by simp)) | exact aH⟩;have m1:=n1.out;have m0:=n0.out;have m2:=n2.out;rw [HF.out];first | (simp_all;done) | (clear HZ;simp_all;done) | (cases mu <;> cases z <;> simp_all;done) | (clear HZ;grind)
end
section
open Go Go.RowKit Go.Maps
def CopE.F (E:CopE):Value:= .func (.func 190) #[] #[.pointer (some ⟨E.pl,0,none⟩),.pointer (some ⟨E.ps,0,none⟩),.pointer (some ⟨E.pc,0,none⟩)]
def CopE.Rec (E:CopE) (ts:List Ty) (m:Nat):Prop:=∀i:Nat,i<m->i<ts.length->∀W sl,E.St ts.length W sl E.F->
 Calls Tryz.prog 190 #[.int .i64 i,.pointer (some ⟨E.pl,0,none⟩),.pointer (some ⟨E.ps,0,none⟩),.pointer (some ⟨E.pc,0,none⟩)] W fun e' W'=>∃q,e' = .returned (.bool q)/\E.Q ts E.F sl i q W'
theorem vX (E:CopE) (ts:List Ty) (m:Nat) (HR:E.Rec ts m) (k:Nat) (hk:k<m) (hkl:k<ts.length) (W:World) (sl:List Int) (h:E.St ts.length W sl E.F):
 Calls Tryz.prog 192 #[.int .i64 k,.pointer (some ⟨E.pc,0,none⟩)] W fun e' W'=>∃q,e' = .returned (.bool (!q))/\E.Q ts E.F sl k q W':=by
 have x:=h.c;have HC:=aF (HR k hk hkl W sl h);clear h HR;generalize E.Q ts E.F sl k=Q at HC ⊢;unfold CopE.F at x;go_enter Tryz.func192,Tryz.ntmps192
 go_wp2_with (go_at_call 190;refine HC.out.mono ?_;rintro e' w1 ⟨q,rfl,hq⟩)
 go_ret;exact ⟨q,rfl,hq⟩
def CopE.IQ (E:CopE) (ts:List Ty) (sl fl:List Int) (r:Int) (W':World):Prop:=
 (r = -1/\∃sl',NewT ts sl sl'/\(∀f∈fl,CovT ts sl' f)/\E.St ts.length W' sl' E.F)\/(0<=r/\(∃f∈fl,copB ts f=false)/\Below E.w0.heap.size E.w0 W')
theorem vU (E:CopE) (ts:List Ty) (m:Nat) (HR:E.Rec ts m) (fl:List Int) (hfl:∀f∈fl,0<=f/\f<(m:Int)/\f<(ts.length:Int)) (B:Option Addr) (d:Nat) (hs:Slc 1 RInt E.w0 B d fl) (W:World) (sl:List Int) (h:E.St ts.length W sl E.F):
 Calls Tryz.prog 211 #[.slice B fl.length d,.func (.func 192) #[] #[.pointer (some ⟨E.pc,0,none⟩)]] W fun e' W'=>∃r:Int,e' = .returned (.int .i64 r)/\E.IQ ts sl fl r W':=by
 have hle:=hs.le;have hbig:=hs.big;have HS:=aF hs;have H0:=aF h;have HC:=aF (vX E ts m HR);clear hs h HR;go_enter Tryz.func211,Tryz.ntmps211
 go_wp2_with fail
 go_loopw [8] (fun v wr=>∃(k:Nat) (sl':List Int),k<=fl.length/\v = .int .i64 k/\Hid (E.St ts.length wr sl' E.F)/\Hid (NewT ts sl sl')/\Hid (∀j (hj:j<fl.length),j<k->CovT ts sl' fl[j])) (fun v _=>fl.length - (intOf v).toNat)
 case atStart=>exact ⟨0,sl,by omega,rfl,H0,aF (NewT.refl _ _),aF (fun j _ h=>absurd h (by omega))⟩
 case round=>
  obtain ⟨k,sl',hk,rfl,HST,HN,HD⟩:=hrel;by_cases hlt:k<fl.length
  ·obtain ⟨bb,oo,rfl,hbb,hx⟩:=(HS.out.keep RInt.keeps HST.out.low).sl.at_ hlt;have hy:=hfl fl[k] (bN hlt);obtain ⟨y,hyy⟩:=bG hy.1;have HY:=aF hyy
   have x0:wr.cell? ⟨bb,oo+k,none⟩=some (.int .i64 y):=by
    rw [<- hyy];simpa [RInt] using hx
   have HCK:=aF (HC.out y (by omega) (by omega) wr sl' HST.out);have HMEM:=aF (bN hlt);clear hx hy hyy HC;go_wp2_with (go_at_call 192;refine HCK.out.mono ?_;rintro e' w1 ⟨q,rfl,hq⟩;have HQ:=aF hq;clear hq)
   ·have hqf:q=false:=by cases q <;> simp_all
    go_ret;refine ⟨_,rfl,Or.inr ⟨by omega,⟨_,HMEM.out,?_⟩,?_⟩⟩
    ·rcases HQ.out with ⟨h1,-⟩ | ⟨-,h2,-⟩
     ·rw [hqf] at h1;cases h1
     ·rw [HY.out];exact h2
    ·rcases HQ.out with ⟨h1,-⟩ | ⟨-,-,h3⟩
     ·rw [hqf] at h1;cases h1
     ·exact h3
   ·have hqt:q=true:=by cases q <;> simp_all
    rcases HQ.out with ⟨-,sl2,h1,h2,h3⟩ | ⟨h1,-⟩
    ·go_roundw
     case rel=>
      refine ⟨k+1,sl2,by omega,by go_num,aF h3,aF (HN.out.trans h1),aF (fun j hj hjk=>?_)⟩;rcases Nat.lt_or_ge j k with hjl | hjl
      ·exact (HD.out j hj hjl).mono h1.1
      ·obtain rfl:j=k:=by omega
       rw [HY.out];exact h2
     case measure=>simp [intOf];omega
    ·rw [hqt] at h1;cases h1
  ·clear HC;go_wp2_with fail
   go_ret
   exact ⟨-1,rfl,Or.inl ⟨rfl,sl',HN.out,fun f hf=>by
    obtain ⟨j,hj,rfl⟩:=List.mem_iff_getElem.1 hf
    exact HD.out j hj (by omega),HST.out⟩⟩
theorem vV (E:CopE) (ts:List Ty) (m:Nat) (HR:E.Rec ts m) (fl:List Int) (hfl:∀f∈fl,0<=f/\f<(m:Int)/\f<(ts.length:Int)) (B:Option Addr) (d:Nat) (hs:Slc 1 RInt E.w0 B d fl) (W:World) (sl:List Int) (h:E.St ts.length W sl E.F):
 Calls Tryz.prog 191 #[.slice B fl.length d,.func (.func 192) #[] #[.pointer (some ⟨E.pc,0,none⟩)]] W fun e' W'=>∃r:Int,e' = .returned (.bool (decide (0<=r)))/\E.IQ ts sl fl r W':=by
 have HC:=aF (vU E ts m HR fl hfl B d hs W sl h);clear hs h HR hfl;generalize E.IQ ts sl fl=Q at HC ⊢;go_enter Tryz.func191,Tryz.ntmps191
 go_wp2_with (go_at_call 211;refine HC.out.mono ?_;rintro e' w1 ⟨r,rfl,hq⟩)
 go_ret;exact ⟨r,rfl,hq⟩
theorem jU (E:CopE) (ts:List Ty) (HE:E.Ok ts):∀m:Nat,E.Rec ts m
 | 0=>fun _ h=>absurd h (by omega)
 | m+1=>fun i him hi W sl h=>by
   by_cases him2:i<m
   ·exact jU E ts HE m i him2 hi W sl h
   obtain rfl:m=i:=by omega
   have HC:=aF (vV E ts m (jU E ts HE m));have HOK:=aF (HE.tyok m hi);have HCB:=aF (tD HE.tyok hi);have hn:=HE.n;have hlen:=h.len;have x1:=h.l;have x2:=h.s;have keyi:=key3 (a:=(m:Int)) (by omega) (by omega);have hown:=h.own;have HST:=aF h;have HEE:=aF HE;have hle:=HE.ty.le;have hbig:=HE.ty.big;obtain ⟨bb,oo,hA,hbb,hx⟩:=HE.ty.sl.at_ hi;have HX:=aF hx;have HLOW:=aF h.low;obtain ⟨t,ht⟩:∃t,ts[m]=t:=⟨_,rfl⟩;rw [ht] at HX HOK HCB;obtain ⟨r1,r2,r3,r4,A2,c2,r5,r6,r7,r8⟩:=HX.out;have y1:=cJ HLOW.out r1;have y2:=cJ HLOW.out r2;have y5:=cJ HLOW.out r5;have R5:=aF r5;have HFL:Hid (Slc 1 RInt E.w0 A2 c2 t.flds):=aF ⟨r8,r6,r7⟩;have hbl:=bO hbb h.low.size;have HT:=aF ht;clear hx HX r8 r1 r2 r3 r4 r5 ht h HE him him2;rw [hA] at x1;by_cases h3:t.kind=3
   ·have e3:(t.kind == 3)=true:=by simp [h3]
    have HF:Hid (∀q:Bool,(!t.mu)=q->E.Q ts E.F sl (m:Int) q W):=aF (fun q hq=>by
     cases hmu:t.mu
     ·rw [hmu] at hq;subst hq;exact Or.inl ⟨rfl,sl,NewT.refl _ _,⟨by simpa using hi,by omega,Or.inl (by simp only [bW];rw [HT.out];exact ⟨h3,hmu⟩)⟩,HST.out⟩
     ·rw [hmu] at hq;subst hq
      exact Or.inr ⟨rfl,by rw [HCB.out,bA h3,hmu];rfl,HLOW.out⟩)
    clear hown HC HCB HOK;go_enter Tryz.func190,Tryz.ntmps190
    go_wp2_with fail
    go_ret;exact ⟨_,rfl,HF.out _ rfl⟩
   ·have e3:(t.kind == 3)=false:=by simp [h3]
    by_cases hm:(m:Int)∈sl
    ·have HFB:Hid (i64F (inF sl) (.int .i64 (m:Int))=true):=aF (by simp [i64F,inF,hm]);have HF:Hid (E.Q ts E.F sl (m:Int) true W):=aF (Or.inl ⟨rfl,sl,NewT.refl _ _,⟨by simpa using hi,by omega,Or.inr (by simp only [bW];rw [HT.out];exact ⟨h3,hm⟩)⟩,HST.out⟩);clear HC HCB HOK hm;go_enter Tryz.func190,Tryz.ntmps190
     go_wp2_with (at_lookup;refine dA _ rfl _ _ 251 rfl 3 4 law3 Tryz.underlying251 Tryz.underlying4 (fG _) _ _ _ rfl hown _ _ rfl keyi ?_;rw [HFB.out])
     go_ret;exact ⟨_,rfl,HF.out⟩
    ·have HFB:Hid (i64F (inF sl) (.int .i64 (m:Int))=false):=aF (by simp [i64F,inF,hm]);have HM:=aF hm;have HH3:=aF h3;clear hm h3;go_enter Tryz.func190,Tryz.ntmps190
     go_wp2_with (first
      | (at_lookup;refine dA _ rfl _ _ 251 rfl 3 4 law3 Tryz.underlying251 Tryz.underlying4 (fG _) _ _ _ rfl hown _ _ rfl keyi ?_;rw [HFB.out])
      | (at_mapUpdate;refine dT _ rfl _ _ _ 251 rfl 3 4 law3 Tryz.underlying251 Tryz.underlying4 _ _ _ rfl hown (by unfold maxLen;omega) _ _ _ rfl rfl keyi trivial _ (iF sl (m:Int)) (jT sl (m:Int)) ?_;intro w3 hown3 hg3;have HS3:=aF (HST.out.put HEE.out HM.out ⟨by omega,by omega⟩ hown3 hg3);have z1:=HS3.out.l;have z5:=cJ HS3.out.low R5.out;rw [hA] at z1;clear hown3 hg3)
      | (go_at_call 191;refine (HC.out t.flds (fun f hf=>by have:=HOK.out.2 f hf;omega) A2 c2 HFL.out _ _ HS3.out).mono ?_;rintro e' w4 ⟨r,rfl,hq⟩;have HQ:=aF hq;clear hq))
     go_ret;refine ⟨_,rfl,?_⟩;rcases HQ.out with ⟨rfl,sl2,h1,h2,h4⟩ | ⟨h1,⟨f,hf,hcf⟩,h4⟩
     ·refine Or.inl ⟨rfl,sl2,h1.mark hi (by rw [HT.out];exact h2),⟨by simpa using hi,by omega,Or.inr ?_⟩,h4⟩;simp only [bW];rw [HT.out];exact ⟨HH3.out,h1.1 _ (by simp)⟩
     ·refine Or.inr ⟨by simp [h1],?_,h4⟩;rw [HCB.out,aZ HH3.out,Bool.eq_false_iff,ne_eq,List.all_eq_true];intro h0;have:=h0 f hf;rw [hcf] at this;cases this
theorem zW (w:World) (n:Nat) (A:Option Addr) (c:Nat) (F:Value) (t1 t2 t3:TypeId):
 CopE.St ⟨w,A,c,w.heap.size,w.heap.size+2,w.heap.size+3,w.heap.size+1⟩ n ((((w.alloc (.cells #[.slice A n c] t1)).alloc (.map #[] 0)).alloc (.cells #[.map (some (w.heap.size+1))] t2)).alloc (.cells #[F] t3)) [] F:=by
 refine ⟨aH,?_,?_,?_,?_,by simp,by simp⟩
 ·exact cJ ((((aX _ _).alloc (aY _) _).alloc (by simp) _).alloc (by simp) _) (cP w [.slice A n c] t1 0 _ rfl)
 ·have:=cP ((w.alloc (.cells #[.slice A n c] t1)).alloc (.map #[] 0)) [.map (some (w.heap.size+1))] t2 0 _ rfl;simp only [bI] at this;exact cJ ((aX _ _).alloc (aY _) _) this
 ·have:=cP (((w.alloc (.cells #[.slice A n c] t1)).alloc (.map #[] 0)).alloc (.cells #[.map (some (w.heap.size+1))] t2)) [F] t3 0 _ rfl;simp only [bI] at this;exact this
 ·have:=OwnB.made (w.alloc (.cells #[.slice A n c] t1)) Tryz.prog 3 4;rw [<- sK,bI] at this;exact (this.alloc _).alloc _
theorem yP (ts:List Ty) (hok:TyOk ts) (hn:ts.length<=65535) (i:Int) (A:Option Addr) (c:Nat) (w:World) (hs:Slc 5 RTy w A c ts):
 Calls Tryz.prog 154 #[.slice A ts.length c,.int .i64 i] w fun e' w'=>e' = .returned (.bool (copB ts i))/\Below w.heap.size w w':=by
 have hle:=hs.le;have hbig:=hs.big;by_cases hr:0<=i/\i<(ts.length:Int)
 case neg=>
  rw [vW (by omega)];clear hs;go_enter Tryz.func154,Tryz.ntmps154
  go_wp2_with fail
  all_goals first
   | (exfalso;omega)
   | (go_ret;exact ⟨rfl,aH⟩)
 case pos=>
 obtain ⟨k,rfl⟩:=bG hr.1;have hlt:k<ts.length:=by omega
 have HE:CopE.Ok ⟨w,A,c,w.heap.size,w.heap.size+2,w.heap.size+3,w.heap.size+1⟩ ts:=⟨hs,hok,hn,Nat.le_succ _,by simp,by simp,by simp⟩;have HC:=aF (fun W h=>jU _ ts HE (k+1) k (by omega) hlt W [] h);have HCB:Hid ((∀sl,NewT ts [] sl->∀i:Int,CovT ts sl k->copB ts k=true)/\(copB ts k=false->copB ts k=false)):=aF ⟨fun sl h i hc=>vD hok (sl:=sl) h hc,id⟩;have hmm:= @run_makeMap Tryz.prog;have hst:∀(a:Addr) (fn:Fn) (f c:Array Value) (W:World),(store a (.func fn f c)).run Tryz.prog W=stored Tryz.prog W a (.func fn f c) .plain:=fun a fn f c W=>run_store Tryz.prog W a (.func fn f c) _ rfl
 clear hs HE;go_enter Tryz.func154,Tryz.ntmps154
 go_wp2_with (go_at_call 190;refine (HC.out _ (zW w ts.length A c _ _ _ _)).mono ?_;rintro e' w1 ⟨q,rfl,hq⟩;have HQ:=aF hq;clear hq)
 all_goals first
  | (exfalso;omega)
  | (go_ret
     rcases HQ.out with ⟨rfl,sl,h1,h2,h3⟩ | ⟨rfl,h1,h2⟩
     ·exact ⟨by rw [HCB.out.1 sl h1 0 h2];rfl,h3.low⟩
     ·exact ⟨by rw [HCB.out.2 h1];rfl,h2⟩)
end
section
open Go Go.RowKit
theorem tB (d:List Int):∀(l:List Int) (a k:Int),depF d a l=some k->∀i∈l,0<=i/\i<d.length
 | [],_,_,_=>by simp
 | i :: r,a,k,h=>by
   rw [depF] at h;by_cases hi:i<0
   ·rw [bA hi] at h;cases h
   rw [aZ hi] at h;cases hx:d[i.toNat]? with
   | none=>rw [hx] at h;cases h
   | some x=>
     rw [hx] at h;have hlt:i.toNat<d.length:=(List.getElem?_eq_some_iff.1 hx).1;intro j hj;rcases List.mem_cons.1 hj with rfl | hj
     ·exact ⟨by omega,by omega⟩
     ·exact tB d r _ k h j hj
def GoodT (m:Nat) (t:Ty):Prop:=(t.kind=3->0<=t.elem/\t.elem<m/\t.flds=[])/\(∀f∈t.flds,0<=f/\f<m)/\0<=t.kind/\t.kind<=4/\(t.kind=4->t.flds.length<=65535)/\(t.kind≠4->t.flds=[])
theorem tY {prev:List Ty} {d:List Int} {n:Int} {t:Ty} (h:(tyE prev d n t).1=0):GoodT d.length t:=by
 unfold tyE at h;by_cases c1:t.kind<0\/4<t.kind
 ·rw [bA c1] at h;cases h
 rw [aZ c1] at h;by_cases c2:(t.kind≠3/\(t.mu=true\/t.reg≠0\/t.elem≠0))\/(t.kind≠4/\0<t.flds.length)
 ·rw [bA c2] at h;cases h
 rw [aZ c2] at h;by_cases c3:t.kind=3/\(t.reg<0\/n<=t.reg)
 ·rw [bA c3] at h;cases h
 rw [aZ c3] at h
 have hfl:t.kind≠4->t.flds=[]:=fun h4=>by
  have:¬0<t.flds.length:=fun h5=>c2 (Or.inr ⟨h4,h5⟩)
  exact List.length_eq_zero_iff.1 (by omega)
 cases hd:depF d 0 (if t.kind=3 then [t.elem] else t.flds) with
 | none=>rw [hd] at h;cases h
 | some k=>
   rw [hd] at h;simp only at h;have hin:=tB d _ _ _ hd;by_cases c4:t.kind=4/\(t.flds.length=0\/65535<t.flds.length)
   ·rw [bA c4] at h;cases h
   refine ⟨fun h3=>?_,fun f hf=>?_,by omega,by omega,fun h4=>by have:¬(t.flds.length=0\/65535<t.flds.length):=fun h=>c4 ⟨h4,h⟩;omega,hfl⟩
   ·rw [bA h3] at hin;have:=hin t.elem (by simp);exact ⟨this.1,this.2,hfl (by omega)⟩
   ·by_cases h3:t.kind=3
    ·rw [hfl (by omega)] at hf;cases hf
    ·rw [aZ h3] at hin;exact hin f hf
theorem gV (n:Int):∀(l prev:List Ty) (d:List Int),d.length=prev.length->typesE n prev d l=0->∀i (h:i<l.length),GoodT (prev.length+i) l[i]
 | [],_,_,_,_=>fun i h=>absurd h (by simp)
 | t :: r,prev,d,hd,h=>by
   rw [typesE] at h;by_cases h0:(tyE prev d n t).1=0
   ·rw [bA h0] at h;intro i hi;cases i with
    | zero=>rw [<- hd];exact tY h0
    | succ i=>
      have:=gV n r (prev ++ [t]) (d ++ [(tyE prev d n t).2]) (by simp [hd]) h i (by simpa using hi);rw [bB,cG] at this;rw [show prev.length+(i+1)=prev.length+1+i by omega];simpa using this
   ·rw [aZ h0] at h;exact absurd h h0
theorem fJ {n:Int} {l:List Ty} (h:typesC n l=0):l.length<=65535/\∀i (h:i<l.length),GoodT i l[i]:=by
 unfold typesC at h;by_cases h0:65535<l.length
 ·rw [bA h0] at h;cases h
 rw [aZ h0] at h;refine ⟨by omega,fun i hi=>?_⟩;have:=gV n l [] [] rfl h i hi;simpa using this
theorem qM {n:Int} {l:List Ty} (h:typesC n l=0):TyOk l:=fun i hi=>⟨((fJ h).2 i hi).1,((fJ h).2 i hi).2.1⟩
theorem iE {nt:Nat}:∀(l:List Lc) (seen:List ByteArray),localsE nt seen l=0->∀x∈l,isIdent x.name=true/\0<=x.type/\x.type<nt
 | [],_,_=>by simp
 | x :: r,seen,h=>by
   rw [localsE] at h;by_cases h1:isIdent x.name=false
   ·rw [bA h1] at h;cases h
   rw [aZ h1] at h;by_cases h2:memN x.name seen=true
   ·rw [bA h2] at h;cases h
   rw [aZ h2] at h;by_cases h3:x.type<0\/(nt:Int)<=x.type
   ·rw [bA h3] at h;cases h
   rw [aZ h3] at h;intro y hy;rcases List.mem_cons.1 hy with rfl | hy
   ·exact ⟨by simpa using h1,by omega,by omega⟩
   ·exact iE r _ h y hy
structure DeclOk (b:Bdy):Prop where
 name:isIdent b.name=true
 regs:namesC b.regions=0
 nreg:b.regions.length<=65535
 outl:pairsC b.regions.length b.outl=0
 nout:b.outl.length<=65535
 pairs:∀p∈b.outl,0<=p.1/\p.1<(b.regions.length:Int)/\0<=p.2/\p.2<(b.regions.length:Int)
 typC:typesC b.regions.length b.types=0
 ntyp:b.types.length<=65535
 good:∀i (h:i<b.types.length),GoodT i b.types[i]
 tyok:TyOk b.types
 nloc:b.locals.length<=65535
 locs:∀x∈b.locals,isIdent x.name=true/\0<=x.type/\x.type<b.types.length
 locE:localsE b.types.length [] b.locals=0
 args:0<=b.args/\b.args<=b.locals.length
 nblk:0<b.blocks.length/\b.blocks.length<=65535
 okay:Okay b.types b.locals
theorem iH:∀{l:List Int},firstE l=0->∀x∈l,x=0
 | [],_=>by simp
 | e :: r,h=>by
   rw [firstE] at h;by_cases he:e=0
   ·rw [bA he] at h;intro x hx;rcases List.mem_cons.1 hx with rfl | hx
    ·exact he
    ·exact iH h x hx
   ·rw [aZ he] at h;exact absurd h he
theorem eK {b:Bdy} (h:declC b=0):DeclOk b:=by
 unfold declC at h;by_cases h1:isIdent b.name=false
 ·rw [bA h1] at h;cases h
 rw [aZ h1] at h;by_cases h2:firstE [namesC b.regions,pairsC b.regions.length b.outl,typesC b.regions.length b.types,localsC b]=0
 ·rw [bA h2] at h;have g:=iH h2;have gn:=g (namesC b.regions) (by simp);have gp:=g (pairsC b.regions.length b.outl) (by simp);have gt:=g (typesC b.regions.length b.types) (by simp);have gl:=g (localsC b) (by simp)
  have hr:b.regions.length<=65535:=by
   unfold namesC at gn;by_cases c:65535<b.regions.length
   ·rw [bA c] at gn;cases gn
   ·omega
  have hp:=iX gp;have ht:=fJ gt;unfold localsC at gl;by_cases c:65535<b.locals.length
  ·rw [bA c] at gl;cases gl
  rw [aZ c] at gl;by_cases c2:localsE b.types.length [] b.locals=0
  ·rw [bA c2] at gl;by_cases c3:b.args<0\/(b.locals.length:Int)<b.args
   ·rw [bA c3] at gl;cases gl
   by_cases c4:b.blocks.length=0\/65535<b.blocks.length
   ·rw [bA c4] at h;cases h
   have hl:=iE _ _ c2;refine ⟨by simpa using h1,gn,hr,gp,hp.1,hp.2,gt,ht.1,ht.2,qM gt,by omega,hl,c2,by omega,by omega,?_,?_,?_⟩
   ·intro t htm h3;obtain ⟨i,hi,rfl⟩:=List.mem_iff_getElem.1 htm;obtain ⟨g1,g2,-⟩:=(ht.2 i hi).1 h3;exact ⟨g1,by omega⟩
   ·intro t htm f hf;obtain ⟨i,hi,rfl⟩:=List.mem_iff_getElem.1 htm;obtain ⟨g1,g2⟩:=(ht.2 i hi).2.1 f hf;exact ⟨g1,by omega⟩
   ·exact fun x hx=>⟨(hl x hx).2.1,(hl x hx).2.2⟩
  ·rw [aZ c2] at gl;exact absurd gl c2
 ·rw [aZ h2] at h;exact absurd h h2
end
section
open Go.RowKit Go.Maps Go.WideMaps
def pairL (s t:Int):Lit:= .string (keyBytes [.int .i64 s,.int .i64 t])
theorem lL {s t s' t':Int} (h1:(Lit.int .i64 s).wf=true) (h2:(Lit.int .i64 t).wf=true) (h3:(Lit.int .i64 s').wf=true) (h4:(Lit.int .i64 t').wf=true) (h:pairL s t=pairL s' t'):s=s'/\t=t':=by
 unfold pairL at h;injection h with h
 have:=keyBytes_inj (l:=[.int .i64 s,.int .i64 t]) (l':=[.int .i64 s',.int .i64 t']) (by simp [Alike,Lit.sameKind]) (by simp [Lit.keyWf,h1,h2]) (by simp [Lit.keyWf,h3,h4]) h;simp at this;exact this
def Memo (P:Program) (k:TypeId) (w:World) (b:Nat) (S:Int->Int->Bool) (ks:List (Int × Int)):Prop:=
 ∃D:DataW Value,w.ownsMap P k (fun v=>some (.held v,[])) b ks.length D/\
  (∀s t,(Lit.int .i64 s).wf=true->(Lit.int .i64 t).wf=true->(s,t)∈ks->∀z,D.atKey (pairL s t) z = .held (.bool (S s t)))/\
  (∀s t,(Lit.int .i64 s).wf=true->(Lit.int .i64 t).wf=true->(s,t)∉ks->∀z,D.atKey (pairL s t) z=z)/\
  (∀p∈ks,(Lit.int .i64 p.1).wf=true/\(Lit.int .i64 p.2).wf=true)
section
variable {P:Program} {k:TypeId} {w:World} {b:Nat} {S:Int->Int->Bool} {ks:List (Int × Int)}
theorem Memo.made (w:World) (P:Program) (k:TypeId) (S:Int->Int->Bool):Memo P k (w.alloc (.map #[] 0)) w.heap.size S []:=
 ⟨.map [],World.ownsMap_made w P k _,fun _ _ _ _ h=>absurd h (by simp),fun _ _ _ _ _ _=>rfl,by simp⟩
theorem Memo.lt (h:Memo P k w b S ks):b<w.heap.size:=by
 obtain ⟨D,h1,_⟩:=h;exact h1.lt
theorem Memo.block {w':World} (h:Memo P k w b S ks) (hb:w'.heap[b]?=w.heap[b]?):Memo P k w' b S ks:=by
 obtain ⟨D,⟨es,clock,h1,h3,h4,h5⟩,h2⟩:=h;exact ⟨D,⟨es,clock,hb.trans h1,h3,h4,h5⟩,h2⟩
theorem Memo.below {w':World} (h:Memo P k w b S ks) (hb:Below w.heap.size w w'):Memo P k w' b S ks:=h.block (hb.block b h.lt)
theorem Memo.alloc (h:Memo P k w b S ks) (o:Obj):Memo P k (w.alloc o) b S ks:=h.below ((aX _ _).alloc (aY _) _)
theorem Memo.drew (h:Memo P k w b S ks):Memo P k w.drew b S ks:=h
theorem Memo.look {t e:TypeId} (h:Memo P k w b S ks) (A:ArrKey P k e 2) (he:P.underlying e=some (.int .i64)) (hsz:∃m,P.types.size=m+1) {te:TypeId} (ht:P.underlying t=some (.map k te)) (hz:(zeroValue te).run P w = .ok (.bool false) w)
 {x y:Int} (hx:(Lit.int .i64 x).wf=true) (hy:(Lit.int .i64 y).wf=true):
 (Instr.lookup t (.map (some b)) (.agg #[.int .i64 x,.int .i64 y]) true).run P w = .ok (.tuple #[.bool (if (x,y)∈ks then S x y else false),.bool (decide ((x,y)∈ks))]) w:=by
 obtain ⟨D,h1,h2,h3,h4⟩:=h;obtain ⟨v,ps,hrun,hv⟩:=h1.look_ok (Keyed.of_law A.law) ht hz rfl (keyOf_pair A he hsz hx hy);change _=some (D.atKey (pairL x y) _,ps) at hv;rw [hrun];change Result.ok (Value.tuple #[v,.bool (has D (pairL x y))]) w=_;by_cases hm:(x,y)∈ks
 ·rw [h2 x y hx hy hm] at hv;injection hv with hv
  injection hv with hv
  injection hv with hv
  rw [hv,has_true_of_atKey (h2 x y hx hy hm),bA hm];simp [hm]
 ·rw [h3 x y hx hy hm] at hv;injection hv with hv
  injection hv with hv
  injection hv with hv
  rw [hv,has_false_of_atKey (h3 x y hx hy hm),aZ hm];simp [hm]
theorem Memo.store {t e:TypeId} (h:Memo P k w b S ks) (A:ArrKey P k e 2) (he:P.underlying e=some (.int .i64)) (hsz:∃m,P.types.size=m+1) {te:TypeId} (ht:P.underlying t=some (.map k te)) (hn:ks.length<maxLen)
 {x y:Int} (hx:(Lit.int .i64 x).wf=true) (hy:(Lit.int .i64 y).wf=true):
 ∃w',(Instr.mapUpdate t (.map (some b)) (.agg #[.int .i64 x,.int .i64 y]) (.bool (S x y))).run P w = .ok () w'/\Memo P k w' b S ((x,y) :: ks)/\w.grownBy w' (some b):=by
 obtain ⟨D,h1,h2,h3,h4⟩:=h;obtain ⟨w',hrun,g1,g2⟩:=h1.update (Keyed.of_law A.law) ht hn (keyOf_pair A he hsz hx hy) (d:= .held (.bool (S x y))) rfl;have hkl:WideAt.IsKeyLit (pairL x y):=trivial;refine ⟨w',hrun,⟨_,g1,?_,?_,?_⟩,g2⟩
 ·intro s t hs ht hm z;by_cases hp:pairL s t=pairL x y
  ·obtain ⟨rfl,rfl⟩:=lL hs ht hx hy hp;exact atKey_put_same h1.isMap hkl _ _
  ·have hne:¬(s=x/\t=y):=fun e=>hp (by rw [e.1,e.2])
   refine (atKey_put_other hp _ _).trans (h2 s t hs ht ?_ z);rcases List.mem_cons.1 hm with e | hm
   ·injection e with e1 e2
    exact absurd ⟨e1,e2⟩ hne
   ·exact hm
 ·intro s t hs ht hm z;have hp:pairL s t≠pairL x y:=fun e=>hm (by obtain ⟨rfl,rfl⟩:=lL hs ht hx hy e;simp)
  exact (atKey_put_other hp _ _).trans (h3 s t hs ht (fun h=>hm (List.mem_cons_of_mem _ h)) z)
 ·intro p hp;rcases List.mem_cons.1 hp with rfl | hp
  ·exact ⟨hx,hy⟩
  ·exact h4 p hp
end
theorem eP {P:Program} (w:World) {ops:Array Oper} {rest:List Oper} {o:Oper} {a:Act} {Q:Exit->Act->World->Prop}
 (hg:o.guard=none) (m x:Operand) (t:TypeId) (hop:o.op=Op.lookup t m x true)
 (k e te:TypeId) (A:ArrKey P k e 2) (he:P.underlying e=some (.int .i64)) (hsz:∃m,P.types.size=m+1) (ht:P.underlying t=some (.map k te)) (hz:(zeroValue te).run P w = .ok (.bool false) w) (b:Nat) (S:Int->Int->Bool) (ks:List (Int × Int))
 (hm:a.eval m = .map (some b)) (hown:Memo P k w b S ks) (s u:Int) (hx:a.eval x = .agg #[.int .i64 s,.int .i64 u]) (h1:(Lit.int .i64 s).wf=true) (h2:(Lit.int .i64 u).wf=true)
 (hK:wpList P ops Q rest (a.put o.dst (.tuple #[.bool (if (s,u)∈ks then S s u else false),.bool (decide ((s,u)∈ks))])) w):
 wpList P ops Q (o :: rest) a w:=by
 refine wpList_plain hg fun K' hK'=>?_
 unfold Oper.wp;simp [execOp,hop,hm,hx,hown.look A he hsz ht hz h1 h2,Result.andThen];simp at hK;exact hK' _ _ hK
theorem cX {P:Program} (w:World) {ops:Array Oper} {rest:List Oper} {o:Oper} {a:Act} {Q:Exit->Act->World->Prop}
 (hg:o.guard=none) (m x v:Operand) (t:TypeId) (hop:o.op=Op.mapUpdate t m x v)
 (k e te:TypeId) (A:ArrKey P k e 2) (he:P.underlying e=some (.int .i64)) (hsz:∃m,P.types.size=m+1) (ht:P.underlying t=some (.map k te)) (b:Nat) (S:Int->Int->Bool) (ks:List (Int × Int))
 (hm:a.eval m = .map (some b)) (hown:Memo P k w b S ks) (hn:ks.length<maxLen) (s u:Int) (hx:a.eval x = .agg #[.int .i64 s,.int .i64 u]) (h1:(Lit.int .i64 s).wf=true) (h2:(Lit.int .i64 u).wf=true) (hv:a.eval v = .bool (S s u))
 (hK:∀w',Memo P k w' b S ((s,u) :: ks)->w.grownBy w' (some b)->wpList P ops Q rest (a.put o.dst undef) w'):
 wpList P ops Q (o :: rest) a w:=by
 refine wpList_plain hg fun K' hK'=>?_
 obtain ⟨w',hrun,r1,r2⟩:=hown.store A he hsz ht hn h1 h2;unfold Oper.wp;simp [execOp,hop,hm,hx,hv,hrun,Result.andThen];exact hK' _ _ (hK w' r1 r2)
theorem rP (n:Nat) (nodupL:∀(n:Nat) (l:List Int),l.Nodup->(∀x∈l,0<=x/\x<n)->l.length<=n) (ks:List (Int × Int)) (h:ks.Nodup) (hr:∀p∈ks,0<=p.1/\p.1<(n:Int)/\0<=p.2/\p.2<(n:Int)):ks.length<=n * n:=by
 have h1:(ks.map (fun p=>p.1 * (n:Int)+p.2)).Nodup:=by
  unfold List.Nodup;rw [List.pairwise_map];refine List.Pairwise.imp_of_mem ?_ h;intro a b ha hb hne heq;obtain ⟨a1,a2,a3,a4⟩:=hr a ha;obtain ⟨b1,b2,b3,b4⟩:=hr b hb
  have e2:a.2=b.2:=by
   have:=congrArg (· % (n:Int)) heq;simp only [Int.mul_add_emod_self_right] at this;rwa [Int.emod_eq_of_lt a3 a4,Int.emod_eq_of_lt b3 b4] at this
  have e1:a.1=b.1:=by
   have hn:(n:Int)≠0:=by omega
   have:a.1 * (n:Int)=b.1 * (n:Int):=by rw [e2] at heq;omega
   exact Int.eq_of_mul_eq_mul_right hn this
  exact hne (by cases a;cases b;simp_all)
 have:=nodupL (n * n) _ h1 (fun x hx=>by
  obtain ⟨p,hp,rfl⟩:=List.mem_map.1 hx;obtain ⟨a1,a2,a3,a4⟩:=hr p hp;have g1:0<=p.1 * (n:Int):=Int.mul_nonneg a1 (by omega);have g2:p.1 * (n:Int)<=((n:Int) - 1) * (n:Int):=Int.mul_le_mul_of_nonneg_right (by omega) (by omega);have g3:((n:Int) - 1) * (n:Int)=(n:Int) * n - n:=by rw [Int.sub_mul,Int.one_mul]
  refine ⟨by omega,?_⟩;push_cast
  omega)
 rwa [cF] at this
end
section
open Go Go.RowKit Go.Maps Go.WideMaps
theorem arrP:ArrKey Tryz.prog 77 3 2:=⟨Tryz.underlying77,by kernel_rfl,by kernel_rfl,by kernel_rfl⟩
theorem progN:∃m,Tryz.prog.types.size=m+1:=⟨Tryz.prog.types.size - 1,by kernel_rfl⟩
structure SubE where
 w0:World
 A:Option Addr
 c:Nat
 pk:Nat
 pl:Nat
 pr:Nat
 pf:Nat
 M:Nat
 r:Nat
def SubE.F (E:SubE):Value:= .func (.func 212) #[] #[.pointer (some ⟨E.pk,0,none⟩),.pointer (some ⟨E.pl,0,none⟩),.pointer (some ⟨E.pr,0,none⟩),.pointer (some ⟨E.pf,0,none⟩)]
structure SubE.Ok (E:SubE) (b:Bdy):Prop where
 ty:Slc 5 RTy E.w0 E.A E.c b.types
 ok:DeclOk b
 rel:Rel3 E.w0 E.r b.regions.length (relL b.outl)
 M:E.w0.heap.size<=E.M
 k:E.M≠E.pk
 l:E.M≠E.pl
 r:E.M≠E.pr
 f:E.M≠E.pf
structure SubE.St (E:SubE) (b:Bdy) (W:World) (ks:List (Int × Int)):Prop where
 low:Below E.w0.heap.size E.w0 W
 k:W.cell? ⟨E.pk,0,none⟩=some (.map (some E.M))
 l:W.cell? ⟨E.pl,0,none⟩=some (.slice E.A b.types.length E.c)
 r:W.cell? ⟨E.pr,0,none⟩=some (.pointer (some ⟨E.r,0,none⟩))
 f:W.cell? ⟨E.pf,0,none⟩=some E.F
 memo:Memo Tryz.prog 77 W E.M (subB b) ks
 nd:ks.Nodup
 rng:∀p∈ks,0<=p.1/\p.1<(b.types.length:Int)/\0<=p.2/\p.2<(b.types.length:Int)
theorem SubE.St.len {E:SubE} {b:Bdy} {W:World} {ks:List (Int × Int)} (h:E.St b W ks):ks.length<=b.types.length * b.types.length:=rP _ fA ks h.nd h.rng
theorem SubE.St.lt {E:SubE} {b:Bdy} {W:World} {ks:List (Int × Int)} (h:E.St b W ks) (hE:E.Ok b):ks.length<maxLen:=by
 have h1:=h.len;have h2:=hE.ok.ntyp;have h3:b.types.length * b.types.length<=65535 * 65535:=Nat.mul_le_mul h2 h2;unfold maxLen;omega
theorem SubE.St.keep {E:SubE} {b:Bdy} {W W':World} {ks:List (Int × Int)} (h:E.St b W ks) (hb:Below W.heap.size W W'):E.St b W' ks:=
 ⟨h.low.trans (hb.mono h.low.size),cJ hb h.k,cJ hb h.l,cJ hb h.r,cJ hb h.f,h.memo.below hb,h.nd,h.rng⟩
theorem SubE.St.put {E:SubE} {b:Bdy} {W W':World} {ks:List (Int × Int)} (h:E.St b W ks) (hE:E.Ok b) {s t:Int} (hi:(s,t)∉ks) (hr:0<=s/\s<(b.types.length:Int)/\0<=t/\t<(b.types.length:Int))
 (hm:Memo Tryz.prog 77 W' E.M (subB b) ((s,t) :: ks)) (hg:W.grownBy W' (some E.M)):E.St b W' ((s,t) :: ks):=by
 have hc:∀(p:Nat) (v:Value),E.M≠p->W.cell? ⟨p,0,none⟩=some v->W'.cell? ⟨p,0,none⟩=some v:=fun p v hne hv=>dQ hg hv (by simpa using (Ne.symm hne))
 refine ⟨h.low.trans (dP hg hE.M h.low.size),hc _ _ hE.k h.k,hc _ _ hE.l h.l,hc _ _ hE.r h.r,hc _ _ hE.f h.f,hm,List.nodup_cons.2 ⟨hi,h.nd⟩,fun x hx=>?_⟩;rcases List.mem_cons.1 hx with rfl | hx
 ·exact hr
 ·exact h.rng x hx
def SubE.Q (E:SubE) (b:Bdy) (W:World) (ks:List (Int × Int)) (s t:Int) (W':World):Prop:=
 ∃ks',E.St b W' ks'/\(∀p∈ks',p∈ks\/p.1+p.2<=s+t)/\W.grownBy W' (some E.M)
def SubE.Ph (E:SubE) (b:Bdy) (W:World) (ks:List (Int × Int)) (n:Int) (W':World):Prop:=
 ∃ks',E.St b W' ks'/\(∀p∈ks',p∈ks\/p.1+p.2<n)/\W.grownBy W' (some E.M)
theorem SubE.Ph.start {E:SubE} {b:Bdy} {W W1:World} {ks:List (Int × Int)} (h:E.St b W ks) (hb:Below W.heap.size W W1) (n:Int):E.Ph b W1 ks n W1:=
 ⟨ks,h.keep hb,fun _p hp=>Or.inl hp,eA (aX _ _) _⟩
theorem SubE.Ph.keep {E:SubE} {b:Bdy} {W W1 W2:World} {ks:List (Int × Int)} {n:Int} (h:E.Ph b W ks n W1) (hb:Below W1.heap.size W1 W2):E.Ph b W ks n W2:=by
 obtain ⟨k1,h1,h2,h3⟩:=h;exact ⟨k1,h1.keep hb,h2,h3.trans (eA hb _)⟩
theorem SubE.Ph.call {E:SubE} {b:Bdy} {W W1 W2:World} {ks ks1:List (Int × Int)} {n s t:Int} (_h1:E.St b W1 ks1) (h2:∀p∈ks1,p∈ks\/p.1+p.2<n) (h3:W.grownBy W1 (some E.M)) (hq:E.Q b W1 ks1 s t W2) (hlt:s+t<n):E.Ph b W ks n W2:=by
 obtain ⟨k2,q1,q2,q3⟩:=hq;refine ⟨k2,q1,fun p hp=>?_,h3.trans q3⟩;rcases q2 p hp with h | h
 ·exact h2 p h
 ·exact Or.inr (by omega)
theorem SubE.fin {E:SubE} {b:Bdy} {W W1 wz w9:World} {ks kz:List (Int × Int)} {s t:Int} (hE:E.Ok b) (hM:(s,t)∉ks) (hr:0<=s/\s<(b.types.length:Int)/\0<=t/\t<(b.types.length:Int)) (hB1:Below W.heap.size W W1)
 (hstz:E.St b wz kz) (hnz:∀p∈kz,p∈ks\/p.1+p.2<s+t) (hgz:W1.grownBy wz (some E.M)) (hm9:Memo Tryz.prog 77 w9 E.M (subB b) ((s,t) :: kz)) (hg9:wz.grownBy w9 (some E.M)):E.Q b W ks s t w9:=by
 refine ⟨(s,t) :: kz,hstz.put hE (fun h=>?_) hr hm9 hg9,fun p hp=>?_,((eA hB1 _).trans hgz).trans hg9⟩
 ·rcases hnz _ h with h | h
  ·exact hM h
  ·exact absurd h (by simp)
 ·rcases List.mem_cons.1 hp with rfl | hp
  ·exact Or.inr (Int.le_refl _)
  ·rcases hnz p hp with h | h
   ·exact Or.inl h
   ·exact Or.inr (by omega)
def SubE.Rec (E:SubE) (b:Bdy) (m:Nat):Prop:=∀s t:Nat,s+t<m->s<b.types.length->t<b.types.length->∀W ks,E.St b W ks->
 Calls Tryz.prog 212 #[.int .i64 s,.int .i64 t,.pointer (some ⟨E.pk,0,none⟩),.pointer (some ⟨E.pl,0,none⟩),.pointer (some ⟨E.pr,0,none⟩),.pointer (some ⟨E.pf,0,none⟩)] W fun e' W'=>e' = .returned (.bool (subB b s t))/\E.Q b W ks s t W'
def ty0:Obj:= .cells #[.int .i64 0,.bool false,.int .i64 0,.int .i64 0,.slice none 0 0] 81
def tyL (t:Ty) (A:Option Addr) (c:Nat):List Value:=[.int .i64 t.kind,.bool t.mu,.int .i64 t.reg,.int .i64 t.elem,.slice A t.flds.length c]
theorem jQ (W:World) (ga gb:Nat) (a b:Ty) (A B:Option Addr) (c d:Nat) (h:(ga=W.heap.size/\gb=W.heap.size+1)\/(ga=W.heap.size+1/\gb=W.heap.size)):
 Below W.heap.size W ((((W.alloc ty0).alloc ty0).setCells ga 0 (tyL a A c)).setCells gb 0 (tyL b B d))/\(∀i v,(tyL a A c)[i]?=some v->((((W.alloc ty0).alloc ty0).setCells ga 0 (tyL a A c)).setCells gb 0 (tyL b B d)).cell? ⟨ga,i,none⟩=some v)/\(∀i v,(tyL b B d)[i]?=some v->((((W.alloc ty0).alloc ty0).setCells ga 0 (tyL a A c)).setCells gb 0 (tyL b B d)).cell? ⟨gb,i,none⟩=some v):=by
 have t0:(W.alloc ty0).there W.heap.size 0 5:=dD W _ _ _ 5 rfl (by simp);have t1:((W.alloc ty0).alloc ty0).there W.heap.size 0 5:=World.there_alloc t0 _;have t2:((W.alloc ty0).alloc ty0).there (W.heap.size+1) 0 5:=dD _ _ _ _ 5 (by simp) (by simp);have ta:((W.alloc ty0).alloc ty0).there ga 0 (tyL a A c).length:=by rcases h with ⟨h,-⟩ | ⟨h,-⟩ <;> rw [h] <;> assumption
 have tb:((W.alloc ty0).alloc ty0).there gb 0 (tyL b B d).length:=by rcases h with ⟨-,h⟩ | ⟨-,h⟩ <;> rw [h] <;> assumption
 refine ⟨dF (by omega) _ _ _ (dF (by omega) _ _ _ aH),fun i v hi=>?_,fun i v hi=>?_⟩
 ·have:=World.rangeAt_setCells_apart (World.rangeAt_setCells_same _ _ _ _ ta) gb 0 (tyL b B d) (Or.inl (by omega)) i v hi;simpa using this
 ·have:=World.rangeAt_setCells_same _ _ _ _ (World.there_setCells tb ga 0 (tyL a A c)) i v hi;simpa using this
theorem xC (E:SubE) (b:Bdy) (HE:E.Ok b) (m:Nat) (HREC0:E.Rec b m) (s t:Nat) (hm:s+t<m+1) (hs:s<b.types.length) (ht:t<b.types.length) (W:World) (ks:List (Int × Int)) (h:E.St b W ks) (hmem:((s:Int),(t:Int))∉ks) (hcase:((b.types[s].kind == b.types[t].kind) && (b.types[s].mu == b.types[t].mu) && ((b.types[s].flds.length:Int) == (b.types[t].flds.length:Int)) && !(b.types[s].kind == 3))=true):
 Calls Tryz.prog 212 #[.int .i64 s,.int .i64 t,.pointer (some ⟨E.pk,0,none⟩),.pointer (some ⟨E.pl,0,none⟩),.pointer (some ⟨E.pr,0,none⟩),.pointer (some ⟨E.pf,0,none⟩)] W fun e' W'=>e' = .returned (.bool (subB b s t))/\E.Q b W ks s t W':=by
 have HREC:=aF HREC0;have HSB:=aF (mG HE.ok.tyok hs ht);have HOKS:=aF (HE.ok.tyok s hs);have HOKT:=aF (HE.ok.tyok t ht);have hn:=HE.ok.ntyp;have hlen:=h.lt HE;have wfs:(Lit.int .i64 (s:Int)).wf=true:=WalkArith.wf_i64 (by omega);have wft:(Lit.int .i64 (t:Int)).wf=true:=WalkArith.wf_i64 (by omega);have x1:=h.k;have x2:=h.l;have x3:=h.r;have x4:=h.f;have hmemo:=h.memo;have HST:=aF h;have HEE:=aF HE;have hle:=HE.ty.le;have hbig:=HE.ty.big;have HMD:Hid (decide (((s:Int),(t:Int))∈ks)=false):=aF (by simp [hmem]);have HM:=aF hmem;obtain ⟨bb,oo,hA,hbb,hxs⟩:=HE.ty.sl.at_ hs;obtain ⟨b2,o2,hA2,hbb2,hxt⟩:=HE.ty.sl.at_ ht;have hAA:some (⟨bb,oo,none⟩:Addr)=some ⟨b2,o2,none⟩:=hA.symm.trans hA2;simp only [Option.some.injEq,Addr.mk.injEq,and_true] at hAA;obtain ⟨rfl,rfl⟩:=hAA;clear hA2 hbb2;obtain ⟨ta,hta⟩:∃x,b.types[s]=x:=⟨_,rfl⟩;obtain ⟨tb,htb⟩:∃x,b.types[t]=x:=⟨_,rfl⟩;rw [hta] at hxs HSB HOKS hcase;rw [htb] at hxt HSB HOKT hcase;obtain ⟨r0,r1,r2,r3,A2,c2,r4,r6,r7,r8⟩:=hxs;obtain ⟨q0,q1,q2,q3,B2,d2,q4,q6,q7,q8⟩:=hxt;have HFA:Hid (Slc 1 RInt E.w0 A2 c2 ta.flds):=aF ⟨r8,r6,r7⟩;have HFB:Hid (Slc 1 RInt E.w0 B2 d2 tb.flds):=aF ⟨q8,q6,q7⟩;have hb0:=h.low;replace r0:=cJ hb0 r0;replace r1:=cJ hb0 r1;replace r2:=cJ hb0 r2;replace r3:=cJ hb0 r3;replace r4:=cJ hb0 r4;replace q0:=cJ hb0 q0;replace q1:=cJ hb0 q1;replace q2:=cJ hb0 q2;replace q3:=cJ hb0 q3;replace q4:=cJ hb0 q4;rw [hA] at x2;clear r8 q8 hta htb hb0 h HE hmem;go_enter Tryz.func212,Tryz.ntmps212;go_wp2_with (at_lookup;refine eP _ rfl _ _ 277 rfl 77 3 4 arrP Tryz.underlying3 progN Tryz.underlying277 (fG _) _ _ _ rfl hmemo _ _ rfl wfs wft ?_;rw [aZ HM.out,HMD.out])
 have hS:Below W.heap.size W W.drew:=(aX _ _).drew;refine cQ (S:=fun X=>Below W.heap.size W X) [0,1,2,3,4,5,6,7,8,9,10,11] (by kernel_rfl) ?_;(iterate 8 (refine cR (v:=?_) ?_ hS ?_;rotate_left;(next=>(rintro X hX;have s0:=cJ hX x2;have u0:=cJ hX r0;have u1:=cJ hX r1;have u2:=cJ hX r2;have u3:=cJ hX r3;have u4:=cJ hX r4;have v0:=cJ hX q0;have v1:=cJ hX q1;have v2:=cJ hX q2;have v3:=cJ hX q3;have v4:=cJ hX q4;(try simp only [aI]);go_simp;rfl));simp only [aM]));have hS1:Below W.heap.size W (W.drew.alloc ty0):=aH;have hS2:Below W.heap.size W ((W.drew.alloc ty0).alloc ty0):=aH;refine fW [0,1,2,3,4,5,6,7,9,8,10,11] ty0 (by kernel_rfl) ?_ ?_ ?_ hS1 hS2 ?_
 ·intro a1 w1 K hK;(simp only [aM]);rw [bA (by rfl)];go_simp;exact hK
 ·intro a1 w1 K hK;(simp only [aM]);rw [bA (by rfl)];go_simp;exact hK
 ·exact fun _ _=>rfl
 intro ga gb hg;obtain ⟨hB1,ya,yb⟩:=jQ W.drew ga gb ta tb A2 B2 c2 d2 hg;have hS3:Below W.heap.size W (((W.drew.alloc ty0).alloc ty0).setCells ga 0 (tyL ta A2 c2)):=dF (by rcases hg with h | h <;> (rw [h.1];simp)) _ _ _ hS2
 have tha:((W.drew.alloc ty0).alloc ty0).there ga 0 (tyL ta A2 c2).toArray.size:=by
  rcases hg with ⟨h,-⟩ | ⟨h,-⟩ <;> rw [h]
  ·exact World.there_alloc (dD _ _ _ _ 5 rfl (by simp)) _
  ·exact dD _ _ _ _ 5 (by simp) (by simp)
 have thb:((W.drew.alloc ty0).alloc ty0).there gb 0 (tyL tb B2 d2).toArray.size:=by
  rcases hg with ⟨-,h⟩ | ⟨-,h⟩ <;> rw [h]
  ·exact dD _ _ _ _ 5 (by simp) (by simp)
  ·exact World.there_alloc (dD _ _ _ _ 5 rfl (by simp)) _
 have hS4:Below W.heap.size W ((((W.drew.alloc ty0).alloc ty0).setCells ga 0 (tyL ta A2 c2)).setCells gb 0 (tyL tb B2 d2)):=hS.trans (hB1.mono (aY _));have hne:ga≠gb/\W.heap.size<=ga/\W.heap.size<=gb:=by rcases hg with ⟨rfl,rfl⟩ | ⟨rfl,rfl⟩ <;> simp
 have hML:=HST.out.memo.lt;have hM:E.M≠ga/\E.M≠gb:=by omega
 clear hg;have thc:=World.there_setCells thb ga 0 (tyL ta A2 c2);generalize (W.drew.alloc ty0).alloc ty0=W8 at *;have E9:∃W9,W8.setCells ga 0 (tyL ta A2 c2)=W9:=⟨_,rfl⟩;obtain ⟨W9,e9⟩:=E9;obtain ⟨W1,e1⟩:∃W1,W9.setCells gb 0 (tyL tb B2 d2)=W1:=⟨_,rfl⟩;rw [e9] at hB1 ya yb hS3 hS4 thc;rw [e1] at hB1 ya yb hS4;(refine cM (fun K1 hK1=>?_);simp only [aM];rw [bA (by rfl)]);refine wp_store_mid 81 (.tmp 11) (.tmp 27) rfl ga 0 (tyL ta A2 c2).toArray rfl rfl tha (by kernel_rfl) (by simp [tyL,Value.oneCell']) ?_;rw [List.toList_toArray,e9];refine hK1.out _ _ (fun _=>hS3) ?_;clear hK1;(refine cM (fun K1 hK1=>?_);simp only [aM];rw [bA (by rfl)]);refine wp_store_mid 81 (.tmp 12) (.tmp 31) rfl gb 0 (tyL tb B2 d2).toArray rfl rfl thc (by kernel_rfl) (by simp [tyL,Value.oneCell']) ?_;rw [List.toList_toArray,e1];refine hK1.out _ _ (fun _=>hS4) ?_;clear hK1;refine cV ?_;(simp only [aM]);obtain ⟨ya0,ya1,ya2,ya3,ya4⟩:=aQ ya;obtain ⟨yb0,yb1,yb2,yb3,yb4⟩:=aQ yb;have hst1:=HST.out.keep hS4;have HPH:=aF (SubE.Ph.start HST.out hS4 ((s:Int)+t));have HB1:=aF hS4;have HM1:=aF hM
 have HC:Hid (∀X,E.Ph b W1 ks ((s:Int)+t) X->(aA (tyL ta A2 c2) X ga)/\(aA (tyL tb B2 d2) X gb)/\X.cell? ⟨E.pf,0,none⟩=some E.F/\X.cell? ⟨E.pr,0,none⟩=some (.pointer (some ⟨E.r,0,none⟩))/\X.cell? ⟨E.pk,0,none⟩=some (.map (some E.M))/\Below E.w0.heap.size E.w0 X):=aF (fun X ⟨kx,h1,h2,h3⟩=>
  ⟨fun i v hi=>dQ h3 (ya i v hi) (by simpa using Ne.symm HM1.out.1),fun i v hi=>dQ h3 (yb i v hi) (by simpa using Ne.symm HM1.out.2),h1.f,h1.r,h1.k,h1.low⟩)
 have hbp:=HST.out.memo.lt;clear hS hS1 hS2 hS3 hS4 hB1 ya yb tha thb thc e9 e1 x1 x2 x3 x4 hmemo r0 r1 r2 r3 r4 q0 q1 q2 q3 q4 hM hML
 have HCALL:Hid (∀x y:Int,0<=x->0<=y->x+y<(s:Int)+t->x<(b.types.length:Int)->y<(b.types.length:Int)->∀X,E.Ph b W1 ks ((s:Int)+t) X->
  Calls Tryz.prog 212 #[.int .i64 x,.int .i64 y,.pointer (some ⟨E.pk,0,none⟩),.pointer (some ⟨E.pl,0,none⟩),.pointer (some ⟨E.pr,0,none⟩),.pointer (some ⟨E.pf,0,none⟩)] X fun e' X'=>e' = .returned (.bool (subB b x y))/\E.Ph b W1 ks ((s:Int)+t) X'):=aF (fun x y hx hy hxy hxl hyl X ⟨kx,h1,h2,h3⟩=>by
  obtain ⟨x,rfl⟩:=bG hx;obtain ⟨y,rfl⟩:=bG hy;refine (HREC.out x y (by omega) (by omega) (by omega) X kx h1).mono ?_;rintro e' X' ⟨rfl,hq⟩
  exact ⟨rfl,SubE.Ph.call h1 h2 h3 hq hxy⟩)
 clear HREC hn;obtain ⟨p1,hp1⟩:∃q,(ta.kind == tb.kind)=q:=⟨_,rfl⟩;obtain ⟨p2,hp2⟩:∃q,(ta.mu == tb.mu)=q:=⟨_,rfl⟩;obtain ⟨p3,hp3⟩:∃q,((ta.flds.length:Int) == (tb.flds.length:Int))=q:=⟨_,rfl⟩;obtain ⟨p4,hp4⟩:∃q,(ta.kind == 3)=q:=⟨_,rfl⟩;rw [hp1,hp2,hp3,hp4] at hcase;have HCASE:=aF hcase;clear hcase;have HP1:=aF hp1;have HP2:=aF hp2;have HP3:=aF hp3;have HP4:=aF hp4
 have HLAW:Hid (∀q:Bool,(p1=true->p2=true->p3=true->p4=true->q=(outB b.outl b.regions.length ta.reg tb.reg && subB b ta.elem tb.elem && (!ta.mu || subB b tb.elem ta.elem)))->(¬(p1=true/\p2=true/\p3=true/\p4=true)->q=(p1 && p2 && p3))->
  subB b s t=(q && (((ta.flds.drop 0).zip (tb.flds.drop 0)).all (fun p=>subB b p.1 p.2)))/\(q=true->ta.flds.length=tb.flds.length)):=aF (fun q h1 h2=>by
  rw [HSB.out];unfold subS;have g1:decide (ta.kind=tb.kind)=p1:=by rw [<- HP1.out];rfl
  have g2:decide (ta.mu=tb.mu)=p2:=by rw [<- HP2.out];cases ta.mu <;> cases tb.mu <;> rfl
  have g3:decide (ta.flds.length=tb.flds.length)=p3:=by rw [<- HP3.out,iA]
  have g4:decide (ta.kind≠3) = !p4:=by rw [<- HP4.out];by_cases h:ta.kind=3 <;> simp [h]
  have g5:p4=true->ta.flds=[]:=fun h=>(HOKS.out.1 (by rw [<- HP4.out] at h;simpa using h)).2.2
  rw [g1,g2,g3,g4,bX,bX];have g6:p3=true->ta.flds.length=tb.flds.length:=fun h=>by rw [<- g3] at h;simpa using h
  cases p1 <;> cases p2 <;> cases p3 <;> cases p4 <;> simp_all)
 clear HSB;have HR:Hid (0<=(s:Int)/\(s:Int)<(b.types.length:Int)/\0<=(t:Int)/\(t:Int)<(b.types.length:Int)):=aF ⟨by omega,by omega,by omega,by omega⟩
 have HO:Hid (∀X,E.Ph b W1 ks ((s:Int)+t) X->Calls Tryz.prog 189 #[.pointer (some ⟨E.r,0,none⟩),.int .i64 ta.reg,.int .i64 tb.reg] X fun e' X'=>e' = .returned (.bool (outB b.outl b.regions.length ta.reg tb.reg))/\E.Ph b W1 ks ((s:Int)+t) X'):=aF (fun X hX=>by
  refine (gP b.outl b.regions.length ta.reg tb.reg E.r X (HEE.out.rel.keep (HC.out X hX).2.2.2.2.2) HEE.out.ok.pairs (by have:=HEE.out.ok.nreg;omega) HEE.out.ok.nout).mono ?_;rintro e' X' ⟨rfl,hb⟩
  exact ⟨rfl,hX.keep hb⟩)
 obtain ⟨z1,z2,z3,z4⟩:W1.cell? ⟨E.pf,0,none⟩=some E.F/\W1.cell? ⟨E.pr,0,none⟩=some (.pointer (some ⟨E.r,0,none⟩))/\W1.cell? ⟨E.pk,0,none⟩=some (.map (some E.M))/\True:=⟨hst1.f,hst1.r,hst1.k,trivial⟩;clear hst1 z4;unfold SubE.F at z1;have hc:=HCASE.out;clear HCASE;have hall:¬(p1=true/\p2=true/\p3=true/\p4=true):=by rintro ⟨rfl,rfl,rfl,rfl⟩;simp at hc
 have HL3:Hid (∀q:Bool,q=(p1 && p2 && p3)->subB b s t=(q && (((ta.flds.drop 0).zip (tb.flds.drop 0)).all (fun p=>subB b p.1 p.2)))/\(q=true->ta.flds.length=tb.flds.length)):=aF (fun q hq=>HLAW.out q (fun h1 h2 h3 h4=>absurd ⟨h1,h2,h3,h4⟩ hall) (fun _=>hq));clear HLAW HO HP1 HP2 HP3 HP4;have HPZ:=HPH;obtain ⟨rfl,rfl,rfl,rfl⟩:p1=true/\p2=true/\p3=true/\p4=false:=by revert hc;cases p1 <;> cases p2 <;> cases p3 <;> cases p4 <;> simp
 clear hc;have HV:=aF (HL3.out true rfl);have hln:=HV.out.2 rfl;have HLN:=aF hln;clear hall HL3 hln;go_wp2_with fail
 go_loopg [9,13] ta.flds.length (fun gk v i wr=>∃(j:Nat) (q:Bool),gk=ta.flds.length - j/\j<=ta.flds.length/\v = .bool q/\i = .int .i64 j/\Hid (E.Ph b W1 ks ((s:Int)+t) wr)/\Hid (subB b s t=(q && ((ta.flds.drop j).zip (tb.flds.drop j)).all (fun p=>subB b p.1 p.2))))
 case atStart=>exact ⟨0,true,by omega,by omega,rfl,rfl,HPZ,aF HV.out.1⟩
 case round=>
  clear HPZ HV;obtain ⟨j,q,hgj,hj,rfl,rfl,HPZ,HV⟩:=hrel;have hq:=HPZ.out;obtain ⟨ca,cb,cf,cr,ck,-⟩:=HC.out _ hq;unfold SubE.F at cf;obtain ⟨ca0,ca1,ca2,ca3,ca4⟩:=aQ ca;obtain ⟨cb0,cb1,cb2,cb3,cb4⟩:=aQ cb;clear ca cb;clear hq;cases q
  ·have HVV:Hid (subB b s t=false):=aF (by rw [HV.out];rfl);clear HCALL HOKS HOKT;obtain ⟨kz,hstz,hnz,hgz⟩:=HPZ.out;have HSZ:=aF hstz;have HNZ:=aF hnz;have HGZ:=aF hgz;have hkz:=hstz.k;clear hnz hgz;go_wp2_with (at_mapUpdate;refine cX _ rfl _ _ _ 277 rfl 77 3 4 arrP Tryz.underlying3 progN Tryz.underlying277 _ _ _ rfl hstz.memo (hstz.lt HEE.out) _ _ rfl wfs wft (by rw [HVV.out];rfl) ?_;intro w9 hm9 hg9;have HM9:=aF hm9;have HG9:=aF hg9;clear hm9 hg9);clear hstz;go_ret;refine ⟨?_,SubE.fin HEE.out HM.out HR.out HB1.out HSZ.out HNZ.out HGZ.out HM9.out HG9.out⟩;rw [HVV.out];rfl
  ·by_cases hlt:j<ta.flds.length
   ·have hlt2:j<tb.flds.length:=by have:=HLN.out;omega
    obtain ⟨ba,oa,rfl,hba,hxa⟩:=HFA.out.sl.at_ hlt;obtain ⟨b8,o8,rfl,hb8,hxb⟩:=HFB.out.sl.at_ hlt2;have h5:=HOKS.out.2 ta.flds[j] (bN hlt);have h6:=HOKT.out.2 tb.flds[j] (bN hlt2);have HV2:Hid (subB b s t=(subB b ta.flds[j] tb.flds[j] && ((ta.flds.drop (j+1)).zip (tb.flds.drop (j+1))).all (fun p=>subB b p.1 p.2))):=aF (by rw [HV.out,cS hlt,cS hlt2,List.zip_cons_cons,cB,Bool.true_and]);obtain ⟨x,hxx⟩:∃x,ta.flds[j]=x:=⟨_,rfl⟩;obtain ⟨y,hyy⟩:∃y,tb.flds[j]=y:=⟨_,rfl⟩;rw [hxx] at hxa h5 HV2;rw [hyy] at hxb h6 HV2;have xa:E.w0.cell? ⟨ba,oa+j,none⟩=some (.int .i64 x):=(by simpa [RInt] using hxa);have xb:E.w0.cell? ⟨b8,o8+j,none⟩=some (.int .i64 y):=(by simpa [RInt] using hxb);have HCX:=aF (HCALL.out x y h5.1 h6.1 (by omega) (by omega) (by omega));have XA:=aF xa;have XB:=aF xb;clear hxa hxb h5 h6 hxx hyy HV HCALL HOKS HOKT xa xb;go_wp2_with fail
    have hS:E.Ph b W1 ks ((s:Int)+t) wr.drew:=HPZ.out.keep ((aX _ _).drew);clear ca0 ca1 ca2 ca3 ca4 cb0 cb1 cb2 cb3 cb4 cf cr ck;refine cQ (S:=fun X=>E.Ph b W1 ks ((s:Int)+t) X) [0,1,2,3,4,5,6,7,8,9,10,11,12] (by kernel_rfl) ?_;(iterate 11 (refine cR (v:=?_) ?_ hS ?_;rotate_left;(next=>(rintro X hX;obtain ⟨da,db,df,-,-,dl⟩:=HC.out X hX;unfold SubE.F at df;have s4:=da 4 _ rfl;have u4:=db 4 _ rfl;have v1:=cJ dl XA.out;have v2:=cJ dl XB.out;clear da db;(try simp only [aI]);go_simp;rfl));simp only [aM]));(refine cM (fun K1 hK1=>?_);simp only [aM];rw [bA (by rfl)];go_simp);refine (HCX.out _ hS).mono ?_;rintro e' w2 ⟨rfl,hq⟩;refine hK1.out _ _ (fun _=>hq) ?_;have HQ:=aF hq;replace hS:=hq;clear hK1 hq;((refine cR (v:=?_) ?_ hS ?_;rotate_left;(next=>(rintro X -;(try simp only [aI]);go_simp;rfl));simp only [aM]))
    refine cV ?_;go_wp2_with fail
    go_roundg (ta.flds.length - (j+1))
    case measure=>omega
    case rel=>exact ⟨j+1,subB b x y,rfl,by omega,rfl,by go_num,HQ,HV2⟩
   ·have HVV:Hid (subB b s t=true):=aF (by rw [HV.out,bE (by omega)];rfl);have e0:¬((j:Int)<(ta.flds.length:Int)):=(by omega);clear HCALL HOKS HOKT;obtain ⟨kz,hstz,hnz,hgz⟩:=HPZ.out;have HSZ:=aF hstz;have HNZ:=aF hnz;have HGZ:=aF hgz;have hkz:=hstz.k;clear hnz hgz;go_wp2_with (at_mapUpdate;refine cX _ rfl _ _ _ 277 rfl 77 3 4 arrP Tryz.underlying3 progN Tryz.underlying277 _ _ _ rfl hstz.memo (hstz.lt HEE.out) _ _ rfl wfs wft (by rw [HVV.out];rfl) ?_;intro w9 hm9 hg9;have HM9:=aF hm9;have HG9:=aF hg9;clear hm9 hg9);clear hstz;go_ret;refine ⟨?_,SubE.fin HEE.out HM.out HR.out HB1.out HSZ.out HNZ.out HGZ.out HM9.out HG9.out⟩;rw [HVV.out];rfl
end
section
open Go Go.RowKit
theorem qB (m k:Nat) (x y:Int) (n:Nat) (A B:Option Addr) (c d:Nat) (w:World) (h1:w.cell? ⟨n,1,none⟩=some (.slice A m c)) (h2:w.cell? ⟨n,2,none⟩=some (.slice B k d)):
 Calls Tryz.prog 153 #[.int .i64 x,.int .i64 y,.pointer (some ⟨n,0,none⟩)] w fun e' w'=>e' = .returned (.bool (decide ((m:Int)=x) && decide ((k:Int)=y)))/\w'=w:=by
 go_enter Tryz.func153,Tryz.ntmps153
 go_wp2_with fail
 all_goals
  go_ret;refine ⟨?_,rfl⟩;refine congrArg (fun b=>Ending.returned (Value.bool b)) ?_;clear h1 h2;grind
theorem nH (s:ByteArray):s.toList.isEmpty=decide (s.size=0):=by
 rw [bR,Lib.toList_data,List.isEmpty_iff,<- List.length_eq_zero_iff,decide_eq_true_eq];show s.data.toList.length=0↔s.data.size=0;rw [Array.length_toList]
theorem eV (t:Trm) (A B C:Option Addr) (c d f:Nat) (w:World):
 Calls Tryz.prog 118 #[.agg (tmC t A c B d C f).toArray] w fun e' w'=>e' = .returned (.bool (fieldsT t))/\Below w.heap.size w w':=by
 have HZ:=aF (fun W=>eH t.place C f W);obtain ⟨k,tg,args,pl,nm⟩:=t;simp only at HZ;unfold tmC;simp only;obtain ⟨m,hm⟩:∃m,tg.length=m:=⟨_,rfl⟩;obtain ⟨j,hj⟩:∃j,args.length=j:=⟨_,rfl⟩;have HQ:=aF (show fieldsT ⟨k,tg,args,pl,nm⟩=_ by unfold fieldsT;simp only;rw [hm,hj]);rw [hm,hj];generalize fieldsT ⟨k,tg,args,pl,nm⟩=q at HQ ⊢;generalize zeroP pl=z at HZ HQ;clear hm hj;have hmf:∀(fn:Fn) (first cap:Array Value) (w:World),(Instr.makeFunc fn first cap).run Tryz.prog w = .ok (.func fn first cap) w:=fun _ _ _ _=>rfl
 go_enter Tryz.func118,Tryz.ntmps118
 go_wp2_with (first | (go_at_call 115;refine (HZ.out _).mono ?_;rintro e' w1 ⟨rfl,hb1⟩;have y:=cK (cP w _ _) hb1;obtain ⟨y0,y1,y2,y3,y4,y5⟩:=aR y;clear y) | (go_at_call 153;refine (qB m j _ _ _ A B c d _ (cP w _ _ 1 _ rfl) (cP w _ _ 2 _ rfl)).mono ?_;rintro e' _ ⟨rfl,rfl⟩))
 all_goals
  go_ret;refine ⟨?_,by first | exact ((aX _ _).alloc (aY _) _).trans (hb1.mono (by simp)) | exact aH⟩;have HF:=HQ.out;try clear y0 y1 y2 y3 y4 y5
  try clear hb1
  clear HQ HZ hmf;rw [HF];first | refine congrArg (fun b=>Ending.returned (Value.bool b)) ?_ | (refine congrArg Ending.returned ?_)
  have hn:=nH nm;try rw [hn]
  clear hn;generalize decide (nm.size=0)=u;by_cases g1:m=1 <;> by_cases g2:m=2 <;> by_cases g3:j=1 <;> grind
theorem xG {α : Type} {enc : α -> Value} {R:Rd α} (hR:∀(w:World) (B b o:Nat) (x : α),w.cell? ⟨b,o,none⟩=some (enc x)->R w B b o x) {w:World} {base n:Nat} {e:TypeId} {v:Value} {xs:List α}
 (h:w.ownsRow base e 1 v n (xs.map enc)) (hn:xs.length=n):∃A c,v = .slice A n c/\Slc 1 R w A c xs/\(∀a,A=some a->base<=a.block/\a.block<w.heap.size):=by
 subst hn;have h0:=h;rcases h.2 with ⟨rfl,hz⟩ | ⟨g,cap,cur,rfl,hg,hh,hnc,hm,_,_⟩
 ·have:xs=[]:=List.length_eq_zero_iff.1 (by omega);subst this;exact ⟨none,0,rfl,⟨Sl.nil,by simp,by omega⟩,fun a h=>by cases h⟩
 ·have hgl:=(Array.getElem?_eq_some_iff.1 hh).1;refine ⟨some ⟨g,0,none⟩,cap,rfl,⟨fun _=>⟨g,0,rfl,hgl,fun i x hx=>?_⟩,by simpa using hnc,by simp only [maxLen] at hm;omega⟩,fun a ha=>?_⟩
  ·have hc:=h0.cells (g:=g) rfl i (enc x) (by rw [cI,hx];rfl);rw [add0] at hc;exact hR w _ g _ x (by simpa using hc)
  ·injection ha with ha
   subst ha;exact ⟨hg,hgl⟩
theorem mX {X:World} {b m n:Nat} {e:TypeId} {v:Value} {xs:List Value} (h:X.ownsRow b e m v n xs):∃A c,v = .slice A n c:=by
 rcases h.2 with ⟨h1,h2⟩ | ⟨g',cap,cur,h1,_⟩
 ·exact ⟨none,0,by rw [h1,h2]⟩
 ·exact ⟨_,cap,h1⟩
def szN (s:ByteArray):Nat:=min s.size 9000
def sumN (l:List ByteArray):Nat:=(l.map (fun s=>1+szN s)).sum
theorem rD (w:World) (cs:List Value) (t:TypeId) (j:Nat) (u:Value) (h:cs[j]?=some u):(w.alloc (.cells cs.toArray t)).cell? ⟨w.heap.size,j,none⟩=some u:=by
 rw [World.cell?_alloc_at _ _ _ _ (by simp)];simpa using h
end
end Go.Proofs.YtmknfbfppmkcfaaGreatDoor
