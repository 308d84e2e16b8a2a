/-
  LivenessCloses: for every body the law answers true, and the argument reads as it did; the card of the row. Condition: the four listed variables hold at the start what the text of the program lays (the given tie; one is a table of the library, pinned by its name). (part 1)
-/
import Derived.Test.YtcfchohkmkilpaaGreatDoorLP27
import Derived.Test.YtcfchohkmkilpaaGreatDoorMS
namespace Go.Proofs.YtcfchohkmkilpaaGreatDoor
set_option maxRecDepth 100000
set_option maxHeartbeats 16000000
section
open Go Go.RowKit
theorem xIK : type_of% @List.map_nil := @List.map_nil
theorem xIL : type_of% @List.mem_map := @List.mem_map
end
section
open Go Go.RowKit
theorem lt2_tri (a b:Int × Int):lt2 a b\/a=b\/lt2 b a:=by
 obtain ⟨a1,a2⟩:=a;obtain ⟨b1,b2⟩:=b;unfold lt2;simp only [Prod.mk.injEq];omega
theorem xKL {ts:List Ty} (hf:∀t∈ts,t.kind≠4->t.flds=[]) {r i:Int}:Men ts r i↔∃k t,Rt ts i k/\0<=k/\ts[k.toNat]?=some t/\t.kind=3/\t.reg=r:=by
 constructor
 ·intro h;induction h with
  | here h0 h1 h2 h3=>exact ⟨_,_,.refl _,h0,h1,h2,h3⟩
  | elem h0 h1 h2 _ ih=>
    obtain ⟨k,t',g1,g2⟩:=ih;exact ⟨k,t',.step h0 h1 (by unfold prtT;rw [bA h2];simp) g1,g2⟩
  | fld h0 h1 h2 _ ih=>
    obtain ⟨k,t',g1,g2⟩:=ih;rename_i t _
    have h4:t.kind=4:=by
     by_cases e:t.kind=4
     ·exact e
     ·have:=hf t (List.mem_of_getElem? h1) e;rw [this] at h2;cases h2
    exact ⟨k,t',.step h0 h1 (by unfold prtT;rw [aZ (by omega)];exact h2) g1,g2⟩
 ·rintro ⟨k,t,h,h0,h1,h2,h3⟩;induction h with
  | refl i=>exact .here h0 h1 h2 h3
  | step g0 g1 g2 _ ih=>
    have:=ih h0 h1;unfold prtT at g2;split at g2
    ·rename_i e;rw [bR] at g2;subst g2;exact .elem g0 g1 e this
    ·exact .fld g0 g1 g2 this
theorem Vi.reach {ts:List Ty} {i:Int} {sl:List Int} (h:Vi ts i [] sl) (j:Int):j∈sl↔Rt ts i j:=
 ⟨fun hj=>(h.snd j hj).elim (fun g=>by cases g) id,fun hr=>hr.closed (S:=fun x=>x∈sl) (fun x t k hx _ ht hk=>(h.cls x hx).elim (fun g=>by cases g) (fun f=>f t ht k hk)) h.hd⟩
def lvR (b:Bdy) (z:Int × Int):Prop:=RlP b z.1 z.2
end
section
open Go Go.RowKit Go.Maps
theorem Kc.of_grown {A B:World} {b:Nat} (hm:∀cs e z,A.heap[b]?≠some (.cells cs e z)) (hg:A.grownBy B (some b)):Kc A B:=
 ⟨fun a v h=>by
   obtain ⟨cs,e,z,hc⟩:=sJ h
   exact (World.cell?_of_block (hg.block a.block (Array.getElem?_eq_some_iff.1 hc).1 (fun e'=>by injection e' with e';exact hm cs e z (e' ▸ hc)))).trans h,hg.size⟩
end
section
open Go Go.RowKit
theorem lv_in {b:Bdy} (h:chkB b=0) {p x:Int} (hl:Lv b.blocks x p):LocIn b x:=by
 obtain ⟨q,hq⟩:=hl.used;exact xEG h hq
end
section
open Go Go.RowKit Go.Maps
theorem xKX {w:World} {a:Addr} {c:Nat} {s:List Int} (h:Slc 1 RInt w (some a) c s):∀j u,(s.map (Value.int .i64))[j]?=some u->w.cell? (a.add j)=some u:=fun j u hu=>by
 rw [cN] at hu;cases hx:s[j]? with
 | none=>rw [hx] at hu;cases hu
 | some x=>
   rw [hx] at hu;injection hu with hu
   subst hu;have hl:=(List.getElem?_eq_some_iff.1 hx).1;obtain ⟨b,off,hA,_,hall⟩:=h.sl (by omega);injection hA with hA
   subst hA;have:=hall j x hx;unfold RInt at this;rw [Nat.mul_one] at this;rw [<- this];congr 1
   unfold Addr.add;split <;> simp_all
theorem xLJ {w:World} {c:Nat} {s:List Int} (h:Slc 1 RInt w none c s):s=[]:=by
 cases s with
 | nil=>rfl
 | cons x r=>obtain ⟨_,_,hA,_⟩:=h.sl (by simp);cases hA
end
section
open Go Go.RowKit Go.Maps
theorem xKS {w:World} {base n:Nat} {A:Option Addr} {c:Nat} {l:List Int} (h:w.ownsRow base 3 1 (.slice A l.length c) n (l.map (Value.int .i64))) (hn:l.length=n):Slc 1 RInt w A c l:=by
 obtain ⟨A',c',hv,hs,_⟩:=fD (R:=RInt) (fun _ _ _ _ _ h=>h) h hn;subst hn;injection hv with e1 e2 e3
 rw [e1,e3];exact hs
theorem xLD {w:World} {base base':Nat} {e:TypeId} {k n:Nat} {v:Value} {xs:List Value} (h:w.ownsRow base e k v n xs) (hb:base'<=base):w.ownsRow base' e k v n xs:=
 ⟨h.1,h.2.imp id (fun ⟨g,cap,cur,h1,h2,h3⟩=>⟨g,cap,cur,h1,bX hb h2,h3⟩)⟩
end
section
open Go Go.RowKit Go.Maps
theorem OwnI.store2 {w:World} {b n:Nat} {sl:List Int} (h:OwnI w b n sl) (hn:n<maxLen) {x:Int} (hkey:keyOf Tryz.prog 3 (.int .i64 x)=some (.int .i64 x)):
 ∃w',(Instr.mapUpdate 74 (.map (some b)) (.int .i64 x) (.bool true)).run Tryz.prog w = .ok () w'/\OwnI w' b (n+1) (x :: sl)/\w.grownBy w' (some b):=by
 obtain ⟨D,h1,h2,h3⟩:=h;obtain ⟨w',hrun,g1,g2⟩:=h1.update law3 Tryz.underlying74 hn hkey (jW Tryz.underlying4 true);have hk:WideAt.IsKeyLit (Lit.int .i64 x):=trivial;refine ⟨w',hrun,⟨_,g1,fun kl=>?_,fun kl=>?_⟩,g2⟩
 ·by_cases e:kl=Lit.int .i64 x
  ·subst e;rw [atKey_put_same h1.isMap hk,iA]
  ·rw [atKey_put_other e,jC _ _ _ e,h2]
 ·by_cases e:kl=Lit.int .i64 x
  ·subst e;rw [has_put_same h1.isMap hk,iA]
  ·rw [has_put_other e,jC _ _ _ e,h3]
theorem xIN (w:World) {ops:Array Oper} {rest:List Oper} {o:Oper} {a:Act} {Q:Exit->Act->World->Prop}
 (hg:o.guard=none) (m x v:Operand) (hop:o.op=Op.mapUpdate 74 m x v) (b n:Nat) (sl:List Int)
 (hm:a.eval m = .map (some b)) (hown:OwnI w b n sl) (hn:n<maxLen) (key:Int) (hx:a.eval x = .int .i64 key) (hv:a.eval v = .bool true) (hkey:keyOf Tryz.prog 3 (.int .i64 key)=some (.int .i64 key))
 (hK:∀w',OwnI w' b (n+1) (key :: sl)->w.grownBy w' (some b)->wpList Tryz.prog ops Q rest (a.put o.dst undef) w'):
 wpList Tryz.prog ops Q (o :: rest) a w:=by
 refine wpList_plain hg fun K' hK'=>?_
 obtain ⟨w',hrun,r1,r2⟩:=hown.store2 hn hkey;unfold Oper.wp;simp [execOp,hop,hm,hx,hv,hrun,Result.andThen];exact hK' _ _ (hK w' r1 r2)
theorem xJB (w:World) {ops:Array Oper} {rest:List Oper} {o:Oper} {a:Act} {Q:Exit->Act->World->Prop} (hg:o.guard=none) (m:Operand) (hop:o.op=Op.range 74 m) (b n:Nat) (sl:List Int)
 (hm:a.eval m = .map (some b)) (hown:OwnI w b n sl)
 (hK:∀w' cnt,RngI w' b w.heap.size n sl (fun x=>decide (x∈sl)) cnt->w.grownBy w' none->w'.heap.size=w.heap.size+1->wpList Tryz.prog ops Q rest (a.put o.dst (.pointer (some ⟨w.heap.size,0,none⟩))) w'):
 wpList Tryz.prog ops Q (o :: rest) a w:=by
 obtain ⟨D,h1,h2,h3⟩:=hown;refine wpList_range_own w hg m 74 hop 3 4 law3 Tryz.underlying74 _ b n D hm h1 (fun w' g1 g2 g3=>hK w' _ ⟨D,_,g1,h3,fun x=>by rw [h3];rfl,fun kl hkl=>?_⟩ g2 g3);rw [h3] at hkl;unfold i64F at hkl;split at hkl
 ·exact ⟨_,rfl⟩
 ·cases hkl
theorem xLC (t:Ty) (A:Option Addr) (c:Nat) (w:World) (hs:Slc 1 RInt w A c t.flds):
 Calls Tryz.prog 122 #[tyAgg t A c] w fun e' w'=>∃B d,e' = .returned (.slice B (prtT t).length d)/\Slc 1 RInt w' B d (prtT t)/\Below w.heap.size w w':=by
 obtain ⟨kd,mu,rg,el,fl⟩:=t;unfold tyAgg prtT;simp only at *;have hb:=alF w (.cells #[.int .i64 kd,.bool mu,.int .i64 rg,.int .i64 el,.slice A fl.length c] 65);have HS:=aF hs;have HB:=aF hb;clear hs hb;by_cases hk:kd=3
 ·have HO:=aF (fun (W:World)=>fN W el 3 W.heap.size rfl);subst hk;rw [bA rfl];go_enter Tryz.func122,Tryz.ntmps122
  go_wp2_with fail
  go_ret;exact ⟨_,1,rfl,by have:=HO.out (w.alloc (.cells #[.int .i64 3,.bool mu,.int .i64 rg,.int .i64 el,.slice A fl.length c] 65));simpa using this,aH⟩
 ·have hb3:(kd == 3)=false:=by simp [hk]
  rw [aZ hk];clear hk;go_enter Tryz.func122,Tryz.ntmps122
  go_wp2_with fail
  go_ret;exact ⟨A,c,rfl,HS.out.keep RInt.keeps HB.out,HB.out⟩
def CopE.F2 (E:CopE):Value:= .func (.func 121) #[] #[.pointer (some ⟨E.ps,0,none⟩),.pointer (some ⟨E.pl,0,none⟩),.pointer (some ⟨E.pc,0,none⟩)]
structure ViS (E:CopE) (n:Nat) (W:World) (sl:List Int):Prop where
 low:Below E.w0.heap.size E.w0 W
 l:W.cell? ⟨E.pl,0,none⟩=some (.slice E.A n E.c)
 s:W.cell? ⟨E.ps,0,none⟩=some (.map (some E.M))
 c:W.cell? ⟨E.pc,0,none⟩=some E.F2
 own:OwnI W E.M 1000000 sl
 nd:sl.Nodup
 rng:∀x∈sl,0<=x/\x<(n:Int)
theorem ViS.keep {E:CopE} {n:Nat} {W W':World} {sl:List Int} (h:ViS E n W sl) (hb:Below W.heap.size W W'):ViS E n W' sl:=
 ⟨h.low.trans (hb.mono h.low.size),cO hb h.l,cO hb h.s,cO hb h.c,h.own.below hb,h.nd,h.rng⟩
theorem ViS.put {E:CopE} {n:Nat} {W W':World} {sl:List Int} (h:ViS E n W sl) (hM:E.w0.heap.size<=E.M) (hn:n<=65535) {i:Int} (hi:i∉sl) (hr:0<=i/\i<(n:Int)) (ho:OwnI W' E.M 1000001 (i :: sl)) (hg:W.grownBy W' (some E.M)):ViS E n W' (i :: sl)/\Kc W W':=by
 obtain ⟨D,⟨es,clock,h1,_⟩,_⟩:=h.own;have hk:Kc W W':=Kc.of_grown (fun cs e z g=>by rw [h1] at g;cases g) hg;have hrg:∀x∈i :: sl,0<=x/\x<(n:Int):=fun x hx=>(List.mem_cons.1 hx).elim (fun e=>e ▸ hr) (h.rng x)
 exact ⟨⟨h.low.trans (eH hg hM h.low.size),hk.cell _ _ h.l,hk.cell _ _ h.s,hk.cell _ _ h.c,ho.tight (m:=1000000) (fun x hx=>by have:=hrg x hx;omega),List.nodup_cons.2 ⟨hi,h.nd⟩,hrg⟩,hk⟩
def CopE.VRec (E:CopE) (ts:List Ty) (m:Nat):Prop:=∀i:Nat,i<m->i<ts.length->∀W sl,ViS E ts.length W sl->
 Calls Tryz.prog 121 #[.int .i64 i,.pointer (some ⟨E.ps,0,none⟩),.pointer (some ⟨E.pl,0,none⟩),.pointer (some ⟨E.pc,0,none⟩)] W fun e' W'=>e' = .returned undef/\∃sl',Vi ts i sl sl'/\ViS E ts.length W' sl'/\Kc W W'
theorem xLU {ts:List Ty} (h:TyOk ts) {i:Nat} (hi:i<ts.length):∀k∈prtT ts[i],0<=k/\k<(i:Int):=fun k hk=>by
 obtain ⟨h1,h2⟩:=h i hi;unfold prtT at hk;split at hk
 ·rename_i e;rw [bR] at hk;subst hk;exact ⟨(h1 e).1,(h1 e).2.1⟩
 ·exact h2 k hk
theorem xIV (E:CopE) (ts:List Ty) (HE:E.Ok ts):∀m:Nat,E.VRec ts m
 | 0=>fun _ h=>absurd h (by omega)
 | m+1=>fun i him hi W sl h=>by
   by_cases him2:i<m
   ·exact xIV E ts HE m i him2 hi W sl h
   obtain rfl:m=i:=by omega
   have HREC:=aF (xIV E ts HE m);have hn:=HE.n;have x1:=h.l;have x2:=h.s;have keyi:=fO (z:=(m:Int)) (by omega);have hown:=h.own;have HST:=aF h;have hle:=HE.ty.le;have hbig:=HE.ty.big;have HM:=aF HE.M;by_cases hin:(m:Int)∈sl
   ·have HFB:Hid (i64F (inF sl) (.int .i64 (m:Int))=true):=aF (by simp [i64F,inF,hin]);have HVI:=aF (Vi.known ts hin);clear hin HREC HE h;go_enter Tryz.func121,Tryz.ntmps121
    go_wp2_with (at_lookup;refine dD _ rfl _ _ 74 rfl 3 4 law3 Tryz.underlying74 Tryz.underlying4 (gC _) _ _ _ rfl hown.toB _ _ rfl keyi ?_;rw [HFB.out])
    first | (simp only [Exit.inBlock,Exit.then];refine bodyPost_ret (results_none rfl _ _ _) rfl ?_) | refine bodyPost_ret (results_none rfl _ _ _) rfl ?_
    exact ⟨rfl,sl,HVI.out,HST.out,Kc.refl _⟩
   ·have HFB:Hid (i64F (inF sl) (.int .i64 (m:Int))=false):=aF (by simp [i64F,inF,hin]);have HNI:=aF hin;obtain ⟨bb,oo,hA,hbb,hx⟩:=HE.ty.sl.at_ hi;have HPL:=aF (xLU HE.tyok hi);have htg:ts[((m:Nat):Int).toNat]?=some ts[m]:=(by simp [hi]);have HTG:=aF htg;obtain ⟨t,ht⟩:∃t,ts[m]=t:=⟨_,rfl⟩;rw [ht] at hx HPL HTG;obtain ⟨r1,r2,r3,r4,A2,c2,r5,r6,r7,r8⟩:=hx;have y1:=cO h.low r1;have y2:=cO h.low r2;have y3:=cO h.low r3;have y4:=cO h.low r4;have y5:=cO h.low r5;have HFL:Hid (Slc 1 RInt E.w0 A2 c2 t.flds):=aF ⟨r8,r6,r7⟩;have hbl:=bN hbb h.low.size;clear hin HE h ht htg r1 r2 r3 r4 r5 r8;rw [hA] at x1;go_enter Tryz.func121,Tryz.ntmps121
    go_wp2_with (first
     | (at_lookup;refine dD _ rfl _ _ 74 rfl 3 4 law3 Tryz.underlying74 Tryz.underlying4 (gC _) _ _ _ rfl hown.toB _ _ rfl keyi ?_;rw [HFB.out])
     | (at_mapUpdate;refine xIN _ rfl _ _ _ rfl E.M 1000000 sl rfl hown (by unfold maxLen;omega) (m:Int) rfl rfl keyi ?_;intro w7 ho7 hg7;obtain ⟨hs7,hk7⟩:=HST.out.put HM.out hn HNI.out ⟨by omega,by omega⟩ ho7 hg7;have HS7:=aF hs7;have HK7:=aF hk7;have z1:=hk7.cell _ _ x1;have z2:=hk7.cell _ _ y1;have z3:=hk7.cell _ _ y2;have z4:=hk7.cell _ _ y3;have z5:=hk7.cell _ _ y4;have z6:=hk7.cell _ _ y5;clear ho7 hg7 hs7 hk7 x1 x2 y1 y2 y3 y4 y5)
     | (go_at_call 122;refine (xLC t A2 c2 w7 (HFL.out.keep RInt.keeps HS7.out.low)).mono ?_;rintro e' w8 ⟨PA,pc,rfl,hp8,hb8⟩;have HP8:=aF hp8;have n8:=hp8.le;have n9:=hp8.big;have HS8:=aF (HS7.out.keep hb8);have HK8:=aF (HK7.out.trans (.of_below hb8));clear hp8 hb8 z1 z2 z3 z4 z5 z6))
    go_loopw [6,18] (fun _ i wr=>∃(k:Nat) (sl':List Int),i = .int .i64 k/\k<=(prtT t).length/\Hid (Vk ts (m:Int) (prtT t) k sl sl')/\Hid (ViS E ts.length wr sl')/\Hid (Kc w8 wr)) (fun _ i _=>(prtT t).length - (intOf i).toNat)
    case atStart=>exact ⟨0,(m:Int) :: sl,rfl,by omega,aF (Vk.start HNI.out),HS8,aF (Kc.refl _)⟩
    case round=>
     obtain ⟨k,sl',rfl,hk,HV,HS,HK⟩:=hrel;by_cases hlt:k<(prtT t).length
     case pos=>
      obtain ⟨pb,po,rfl,hpb,hx0⟩:=(HP8.out.keepC RInt.keepsC HK.out).sl.at_ hlt;have x0:wr.cell? ⟨pb,po+k,none⟩=some (.int .i64 (prtT t)[k]):=(by simpa [RInt] using hx0);have hki:=bD hlt;have hpl:=HPL.out _ (bM hlt);have HKI:=aF hki;clear hx0 hki;generalize (prtT t)[k]=y0 at *;obtain ⟨y,rfl⟩:=bG hpl.1;have HC:=aF (HREC.out y (by omega) (by omega) wr sl' HS.out);have xc:=HS.out.c;unfold CopE.F2 at xc;go_wp2_with (go_at_call 121;refine HC.out.mono ?_;rintro e' w9 ⟨rfl,sl9,hv9,hs9,hk9⟩;have HV9:=aF hv9;have HS9:=aF hs9;have HK9:=aF (HK.out.trans hk9);clear hv9 hs9 hk9 x0 xc)
      have HVK:=aF (HV.out.step (by omega) HTG.out HKI.out HV9.out);go_roundw
      case rel=>exact ⟨k+1,sl9,by go_num,by omega,HVK,HS9,HK9⟩
      case measure=>simp [intOf];omega
     case neg=>
      have HVC:=aF (HV.out.close HTG.out (by omega));go_wp2_with fail
      go_end0
      exact ⟨rfl,sl',HVC.out,HS.out,HK8.out.trans HK.out⟩
end
section
open Go Go.RowKit Go.Maps
attribute [local irreducible] Calls
theorem xLS (w:World) (n:Nat) (A:Option Addr) (c:Nat) (t1 t2 t3:TypeId):
 ViS ⟨w,A,c,w.heap.size,w.heap.size+2,w.heap.size+3,w.heap.size+1⟩ n ((((w.alloc (.cells #[.slice A n c] t1)).alloc (.map #[] 0)).alloc (.cells #[.map (some (w.heap.size+1))] t2)).alloc (.cells #[CopE.F2 ⟨w,A,c,w.heap.size,w.heap.size+2,w.heap.size+3,w.heap.size+1⟩] t3)) []:=by
 refine ⟨aH,?_,?_,?_,?_,by simp,by simp⟩
 ·exact cO ((((aX _ _).alloc (aY _) _).alloc (by simp) _).alloc (by simp) _) (cQ w [.slice A n c] t1 0 _ rfl)
 ·have:=cQ ((w.alloc (.cells #[.slice A n c] t1)).alloc (.map #[] 0)) [.map (some (w.heap.size+1))] t2 0 _ rfl;simp only [bI] at this;exact cO ((aX _ _).alloc (aY _) _) this
 ·have:=cQ (((w.alloc (.cells #[.slice A n c] t1)).alloc (.map #[] 0)).alloc (.cells #[.map (some (w.heap.size+1))] t2)) [CopE.F2 ⟨w,A,c,w.heap.size,w.heap.size+2,w.heap.size+3,w.heap.size+1⟩] t3 0 _ rfl;simp only [bI] at this;exact this
 ·have:=(OwnI.made (w.alloc (.cells #[.slice A n c] t1))).mono (m:=1000000) (by omega);rw [bI] at this;exact (this.alloc _).alloc _
theorem xLA (ts:List Ty) (hok:TyOk ts) (hn:ts.length<=65535) (k:Nat) (hlt:k<ts.length) (A:Option Addr) (c:Nat) (w:World) (hs:Slc 5 RTy w A c ts):
 Calls Tryz.prog 78 #[.slice A ts.length c,.int .i64 (k:Int)] w fun e' w'=>∃g sl,e' = .returned (.map (some g))/\OwnI w' g 1000000 sl/\sl.Nodup/\(∀x∈sl,0<=x/\x<(ts.length:Int))/\(∀z,z∈sl↔Rt ts (k:Int) z)/\w.heap.size<=g/\Below w.heap.size w w':=by
 have hle:=hs.le;have hbig:=hs.big;have HE:CopE.Ok ⟨w,A,c,w.heap.size,w.heap.size+2,w.heap.size+3,w.heap.size+1⟩ ts:=⟨hs,hok,hn,Nat.le_succ _,by simp,by simp,by simp⟩;have HC:=aF (fun W h=>xIV _ ts HE (k+1) k (by omega) hlt W [] h);have hmm:= @run_makeMap Tryz.prog;have hst:∀(a:Addr) (fn:Fn) (f c:Array Value) (W:World),(store a (.func fn f c)).run Tryz.prog W=stored Tryz.prog W a (.func fn f c) .plain:=fun a fn f c W=>run_store Tryz.prog W a (.func fn f c) _ rfl
 clear hs HE;go_enter Tryz.func78,Tryz.ntmps78
 go_wp2_with (go_at_call 121;refine (HC.out _ (xLS w ts.length A c _ _ _)).mono ?_;rintro e' w1 ⟨rfl,sl,hv,hs1,hk1⟩;have HV:=aF hv;have HS1:=aF hs1;have x1:=hs1.s;clear hv hs1 hk1)
 go_ret;exact ⟨_,sl,rfl,HS1.out.own,HS1.out.nd,HS1.out.rng,HV.out.reach,by omega,HS1.out.low⟩
def PtR (ts:List Ty) (x r:Int):Prop:=∃t,ts[x.toNat]?=some t/\t.kind=3/\t.reg=r
structure Mv (ts:List Ty) (sl vs o:List Int) (left:Int->Bool):Prop where
 nd:vs.Nodup
 mem:∀x∈vs,x∈sl/\left x=false
 all:∀x∈sl,left x=false->x∈vs
 len:o.length<=vs.length
 out:∀r,r∈o↔∃x∈vs,PtR ts x r
theorem Mv.start (ts:List Ty) (sl:List Int):Mv ts sl [] [] (fun x=>decide (x∈sl)):=
 ⟨by simp,by simp,fun x hx h=>by simp [hx] at h,aY _,fun r=>by simp⟩
theorem Mv.len_le {ts:List Ty} {sl vs o:List Int} {left:Int->Bool} (h:Mv ts sl vs o left) {n:Nat} (hr:∀x∈sl,0<=x/\x<(n:Int)):o.length<=n:=
 bX h.len (dR n vs h.nd (fun x hx=>hr x (h.mem x hx).1))
theorem Mv.pass {ts:List Ty} {sl vs o:List Int} {left:Int->Bool} (h:Mv ts sl vs o left) {x:Int} (hx:x∈sl) (hl:left x=true) (hp:∀r,¬PtR ts x r):Mv ts sl (x :: vs) o (fun z=>left z && decide (z≠x)):=
 ⟨List.nodup_cons.2 ⟨fun hv=>(by have:=(h.mem x hv).2;rw [hl] at this;cases this),h.nd⟩,
  fun y hy=>(List.mem_cons.1 hy).elim (fun e=>by subst e;exact ⟨hx,by simp⟩) (fun hv=>⟨(h.mem y hv).1,by simp [(h.mem y hv).2]⟩),
  fun y hy hf=>by
   by_cases e:y=x
   ·subst e;simp
   ·refine List.mem_cons_of_mem _ (h.all y hy ?_);simpa [e] using hf,
  bX h.len (by simp),fun r=>by rw [h.out];simp [hp]⟩
theorem Mv.take {ts:List Ty} {sl vs o:List Int} {left:Int->Bool} (h:Mv ts sl vs o left) {x:Int} (hx:x∈sl) (hl:left x=true) {t:Ty} (ht:ts[x.toNat]?=some t) (h3:t.kind=3):Mv ts sl (x :: vs) (o ++ [t.reg]) (fun z=>left z && decide (z≠x)):=
 ⟨List.nodup_cons.2 ⟨fun hv=>(by have:=(h.mem x hv).2;rw [hl] at this;cases this),h.nd⟩,
  fun y hy=>(List.mem_cons.1 hy).elim (fun e=>by subst e;exact ⟨hx,by simp⟩) (fun hv=>⟨(h.mem y hv).1,by simp [(h.mem y hv).2]⟩),
  fun y hy hf=>by
   by_cases e:y=x
   ·subst e;simp
   ·refine List.mem_cons_of_mem _ (h.all y hy ?_);simpa [e] using hf,
  by simp [h.len],fun r=>by
   rw [cK,h.out,bR];constructor
   ·rintro (⟨y,hy,hr⟩ | rfl)
    ·exact ⟨y,List.mem_cons_of_mem _ hy,hr⟩
    ·exact ⟨x,by simp,t,ht,h3,rfl⟩
   ·rintro ⟨y,hy,hr⟩;rcases List.mem_cons.1 hy with rfl | hv
    ·obtain ⟨u,hu,_,he⟩:=hr;rw [ht] at hu;injection hu with hu;subst hu
     exact .inr he.symm
    ·exact .inl ⟨y,hv,hr⟩⟩
theorem Mv.done {ts:List Ty} {sl vs o:List Int} {left:Int->Bool} (h:Mv ts sl vs o left) (hl:∀x,left x=false) (r:Int):r∈o↔∃x∈sl,PtR ts x r:=
 (h.out r).trans ⟨fun ⟨x,a,b⟩=>⟨x,(h.mem x a).1,b⟩,fun ⟨x,a,b⟩=>⟨x,h.all x a (hl x),b⟩⟩
theorem RngI.grow1 {W W':World} {mb r k:Nat} {sl:List Int} {left:Int->Bool} {cnt:Nat} (h:RngI W mb r k sl left cnt) {base m:Nat} {v:Value} {xs:List Value} (ho:W.ownsRow base 3 1 v m xs) (hg:W.grownBy W' v.ownBlock):RngI W' mb r k sl left cnt:=by
 obtain ⟨a1,a2,a3,a4,hi⟩:=h.iter;obtain ⟨c1,c2,hm⟩:=h.mobj;refine h.kept (hg.block _ h.lt.2.1 (fun e=>?_)) (hg.block _ h.lt.1 (fun e=>?_))
 ·obtain ⟨cur,hc⟩:=gZ ho e.symm;rw [hm] at hc;cases hc
 ·obtain ⟨cur,hc⟩:=gZ ho e.symm;rw [hi] at hc;cases hc
theorem xLE (ts:List Ty) (hok:TyOk ts) (hn:ts.length<=65535) (k:Nat) (hlt:k<ts.length) (A:Option Addr) (c:Nat) (w:World) (hs:Slc 5 RTy w A c ts):
 Calls Tryz.prog 46 #[.slice A ts.length c,.int .i64 (k:Int)] w fun e' w'=>∃B d s,e' = .returned (.slice B s.length d)/\Srt s (fun r=>∃x,Rt ts (k:Int) x/\PtR ts x r)/\Slc 1 RInt w' B d s/\(∀a,B=some a->w.heap.size<=a.block)/\Below w.heap.size w w':=by
 have hle:=hs.le;have hbig:=hs.big;have HS0:=aF hs;have HR:=aF (xLA ts hok hn k hlt A c w hs);obtain ⟨i0,hi0,hz0,hz1,hz2⟩:=info_parts dU;obtain ⟨bb,oo,rfl,hbb,hx0⟩:=hs.sl.at_ hlt;clear hs hok hx0;go_enter Tryz.func46,Tryz.ntmps46
 go_wp2_with (first
  | (at_range;refine xJB _ rfl _ rfl g 1000000 sl rfl HO1.out ?_;intro w2 cnt hrg hg2 hs2;have HB2:=aF (HB1.out.trans ((show Below w1.heap.size w1 w2 from ⟨hg2.os,hg2.tape,hg2.output,hg2.size,fun k hk=>hg2.block k hk (by simp)⟩).mono HB1.out.size));have HRG2:=aF hrg;have hr1:=HB1.out.size;clear hrg hg2 hs2 HO1)
  | (go_at_call 78;refine HR.out.mono ?_;rintro e' w1 ⟨g,sl,rfl,ho1,hnd,hrng,hrt,hgl,hb1⟩;have HO1:=aF ho1;have HRN:=aF hrng;have HRT:=aF hrt;have HB1:=aF hb1;have HGL:=aF hgl;clear ho1 hnd hrng hrt hgl hb1))
 go_frame
 obtain ⟨r,hr⟩:∃r,w1.heap.size=r:=⟨_,rfl⟩;rw [hr] at HRG2 hr1 ⊢;clear hr;go_loopw [5] (fun v wr=>∃(left:Int->Bool) (cnt:Nat) (vs o:List Int),Hid (RngI wr g r 1000000 sl left cnt)/\Hid (Below w.heap.size w wr)/\Hid (wr.ownsRow w.heap.size 3 1 v o.length (o.map (Value.int .i64)))/\Hid (Mv ts sl vs o left)) (fun _ wr=>wr.rangeLeft g r)
 case atStart=>exact ⟨_,cnt,[],[],HRG2,HB2,aF (by simpa using World.ownsRow_nil _ _ _ _),aF (Mv.start ts sl)⟩
 case round=>
  clear HRG2 HB2;obtain ⟨left,cnt,vs,o,HRG,HB,HW,HM⟩:=hrel;go_wp2_with (at_next;refine mU _ rfl _ rfl g r 1000000 sl left cnt rfl HRG.out ?_ ?_)
  ·intro hl0;have HO:=aF (HM.out.done hl0);have hol:=HM.out.len_le HRN.out;have HSO:=aF (zF wr w.heap.size _ _ _ HW.out (by simp) (by omega));clear HRG HM
   go_wp2_with (first
    | (go_at_call 66;refine HSO.out.mono ?_;rintro e' w5 ⟨rfl,ho5,hg5⟩;have HK:=aF (qM w5 _ _ _ _ ho5 (by simp) (xAL _));have HG5:=aF hg5;clear ho5 hg5)
    | (go_at_call 79;refine HK.out.mono ?_;rintro e' w6 ⟨LA,lc,s,rfl,hs,hl,hlo,hg6⟩;have HLO:=aF hlo;have HSS:=aF hs;have HL:=aF hl;have HG6:=aF hg6;clear hs hl hg6 hlo))
   go_ret;have hlt3:=fun g hg=>(HW.out.lt g hg).1
   have hb5:=HB.out.grown HG5.out HB.out.size hlt3;have hb6:=hb5.grown HG6.out hb5.size hlt3;refine ⟨LA,lc,s,rfl,HSS.out.iff (fun r=>?_),HL.out,HLO.out,hb6⟩;rw [(List.mergeSort_perm _ _).mem_iff,HO.out];exact ⟨fun ⟨x,a,b⟩=>⟨x,(HRT.out x).1 a,b⟩,fun ⟨x,a,b⟩=>⟨x,(HRT.out x).2 a,b⟩⟩
  ·intro x c2 w6 cnt2 hwf hlx hxs hrg6 hlt6 hgr6 hsz6 hen;obtain ⟨ms,ss,ts',cs,hit⟩:=HRG.out.iter;have HW6:=aF (nR HW.out hit (fun _ _ e=>by cases e) hgr6);have HB6:=aF (HB.out.grown hgr6 HB.out.size (fun g hg=>(by injection hg with hg;subst hg;exact hr1)));have HRG6:=aF hrg6;have HLT:=aF hlt6;have hol:=HM.out.len_le HRN.out;have hxr:=HRN.out x hxs;obtain ⟨y,rfl⟩:=bG hxr.1;obtain ⟨b2,o2,hA,_,hx⟩:=(HS0.out.keep RTy.keeps HB6.out).sl.at_ (i:=y) (by omega);injection hA with hA
   injection hA with hA1 hA2
   subst hA1 hA2;have htg:ts[((y:Nat):Int).toNat]?=some ts[y]:=by simp [show y<ts.length by omega]
   obtain ⟨t,ht⟩:∃t,ts[y]=t:=⟨_,rfl⟩;rw [ht] at hx htg;obtain ⟨r1,r2,r3,r4,A2,c3,r5,r6,r7,r8⟩:=hx;have hle6:=HB6.out.size;by_cases h3:t.kind=3
   ·have HMV:=aF (HM.out.take hxs hlx htg h3);simp only [ne_eq,decide_not] at HMV;rw [h3] at r1;have hown2:=HW6.out.alloc (.cells #[.int .i64 t.reg] 3);obtain ⟨VA,vc,rfl⟩:=dE HW.out;clear r2 r4 r5 r6 r7 r8 htg hit hwf hlx hxs hrg6 hlt6 hgr6 hsz6 HM HW h3 ht;go_wp2_with (at_builtin;refine wpList_append_own _ rfl _ _ 34 rfl w.heap.size 3 i0 (.int .i64 0) 1 8 Tryz.underlying34 hi0 hz0 hz1 hz2 rfl (by decide) _ _ _ rfl hown2 ⟨w6.heap.size,0,none⟩ 1 1 [.int .i64 t.reg] rfl rfl (cell_one_new _ _ _) (fun u hu=>by simp at hu;subst hu;rfl) (by unfold maxLen;omega) (by omega) (by simp;omega) ?_;intro v' w7 hown' hgrow _)
    have hal6:=alF w6 (.cells #[.int .i64 t.reg] 3);have HRG7:=aF ((HRG6.out.below hal6).grow1 hown2 hgrow);have HB7:=aF ((HB6.out.trans (hal6.mono hle6)).grown hgrow (by simp;omega) (fun g hg=>(hown2.lt g hg).1));go_roundw
    case rel=>exact ⟨_,cnt2,_,_,HRG7,HB7,aF (by rw [bS,bB];exact hown'),HMV⟩
    case measure=>rw [HRG7.out.left_eq,HRG.out.left_eq];exact HLT.out
   ·have e3:(t.kind == 3)=false:=by simp [h3]
    have HMV:=aF (HM.out.pass hxs hlx (fun r ⟨u,hu,hk,_⟩=>h3 (by rw [htg] at hu;injection hu with hu;rw [hu];exact hk)));simp only [ne_eq,decide_not] at HMV;clear r2 r3 r4 r5 r6 r7 r8 htg hit hwf hlx hxs hrg6 hlt6 hgr6 hsz6 HM HW h3 ht;go_wp2_with fail
    go_roundw
    case rel=>exact ⟨_,cnt2,_,_,HRG6,HB6,HW6,HMV⟩
    case measure=>rw [HRG6.out.left_eq,HRG.out.left_eq];exact HLT.out
end
section
open Go Go.RowKit Go.Maps
attribute [local irreducible] Calls
theorem xKZ {pairs:List (Int × Int)} {z y:Int}:z∈relL pairs true y↔(z,y)∈pairs:=by
 simp only [relL,if_true,xIL,List.mem_filter,decide_eq_true_eq];constructor
 ·rintro ⟨⟨p,q⟩,⟨h1,h2⟩,h3⟩;simp only at h2 h3;subst h2 h3;exact h1
 ·intro h;exact ⟨(z,y),⟨h,rfl⟩,rfl⟩
theorem OwnI.eq {w:World} {b n:Nat} {sl o:List Int} (h:OwnI w b n sl) (e:∀z,z∈sl↔z∈o):OwnI w b n o:=by
 have:inF sl=inF o:=by funext z;unfold inF;exact decide_eq_decide.2 (e z)
 unfold OwnI at *;rwa [this] at h
structure ClW (w:World) (o:List Int) (v:Value) (W:World):Prop where
 low:Below w.heap.size w W
 own:OwnI W w.heap.size 1000000 o
 row:W.ownsRow (w.heap.size+1) 3 1 v o.length (o.map (Value.int .i64))
theorem ClW.lt {w:World} {o:List Int} {v:Value} {W:World} (h:ClW w o v W):w.heap.size+1<=W.heap.size:=h.own.lt
theorem ClW.keep {w:World} {o:List Int} {v:Value} {W W':World} (h:ClW w o v W) (hb:Below W.heap.size W W'):ClW w o v W':=
 ⟨h.low.trans (hb.mono h.low.size),h.own.below hb,dG h.row hb⟩
def ClM (w:World) (o:List Int) (y:Int) (v:Value) (W:World):Prop:=
 Below w.heap.size w W/\OwnI W w.heap.size 1000000 (o ++ [y])/\W.ownsRow (w.heap.size+1) 3 1 v o.length (o.map (Value.int .i64))
theorem ClW.put {w:World} {o:List Int} {v:Value} {W W':World} (h:ClW w o v W) {y:Int} (ho:OwnI W' w.heap.size 1000001 (y :: o)) (hg:W.grownBy W' (some w.heap.size)) (hr:∀z∈y :: o,0<=z/\z<((1000000:Nat):Int)):ClM w o y v W':=by
 obtain ⟨es,c,hm⟩:=h.own.obj;exact ⟨h.low.trans (eH hg (aY _) h.low.size),(ho.tight hr).eq (fun z=>by simp [or_comm]),nR h.row hm (fun _ _ e=>by cases e) hg⟩
theorem ClM.add {w:World} {o:List Int} {y:Int} {v v':Value} {W W':World} (h:ClM w o y v W) {x:Obj} (hown:(W.alloc x).ownsRow (w.heap.size+1) 3 1 v o.length (o.map (Value.int .i64))) (h1:W'.ownsRow (w.heap.size+1) 3 1 v' (o.length+1) (o.map (Value.int .i64) ++ [.int .i64 y])) (hg:(W.alloc x).grownBy W' v.ownBlock):ClW w (o ++ [y]) v' W':=by
 obtain ⟨h0,ho,hr⟩:=h;have hsz:=ho.lt;have hal:=alF W x;have hlt:=fun g hg=>(hown.lt g hg).1
 refine ⟨(h0.trans (hal.mono h0.size)).grown hg (by simp;omega) (fun g e=>by have:=hlt g e;omega),?_,by rw [bS,bB];exact h1⟩;exact (ho.below hal).block (hg.block _ (by simp;omega) (fun e=>by have:=hlt _ e.symm;omega))
theorem xKR (pairs:List (Int × Int)) (n:Nat) (r:Nat) (w:World) (hR:Rel3 w r n (relL pairs)) (hr:∀p∈pairs,0<=p.1/\p.1<(n:Int)/\0<=p.2/\p.2<(n:Int)) (hn:n<=65536) (hl:pairs.length<=65535)
 (l:List Int) (A:Option Addr) (c:Nat) (hs:Slc 1 RInt w A c l):
 Calls Tryz.prog 47 #[.pointer (some ⟨r,0,none⟩),.slice A l.length c] w fun e' w'=>∃B d s,e' = .returned (.slice B s.length d)/\Srt s (clP pairs n l)/\Slc 1 RInt w' B d s/\(∀a,B=some a->w.heap.size<=a.block)/\Below w.heap.size w w':=by
 obtain ⟨M,hM,hLK⟩:=hR;obtain ⟨x0,x1,x2⟩:=jL hM;have HX0:=aF x0;have HX2:=aF x2;have hle:=hs.le;have hbig:=hs.big;have HSL:=aF hs;have HLK:=aF (fun y h0 h9=>hLK true y h0 h9);have HRP:=aF hr;obtain ⟨i0,hi0,hz0,hz1,hz2⟩:=info_parts dU;have hmm:= @run_makeMap Tryz.prog;clear hs hLK hr hM x0 x1 x2;go_enter Tryz.func47,Tryz.ntmps47
 go_wp2_with fail
 go_loopw [6,15] (fun v i wr=>∃(k:Nat) (o:List Int),i = .int .i64 k/\k<=l.length/\Hid (ClW w o v wr)/\Hid (Cl pairs n l o k 0)) (fun _ i _=>l.length - (intOf i).toNat)
 case atStart=>exact ⟨0,[],rfl,by omega,aF ⟨aH,(OwnI.made w).mono (by omega),by simpa using World.ownsRow_nil _ _ _ _⟩,aF (Cl.start pairs n l)⟩
 case round=>
  obtain ⟨k,o,rfl,hk,HW,HC⟩:=hrel;by_cases hlt:k<l.length
  case pos=>
   obtain ⟨g2,o2,rfl,hb2',hy⟩:=(HSL.out.keep RInt.keeps HW.out.low).sl.at_ hlt;have hyl:=bD hlt;obtain ⟨y,hyy⟩:∃y,l[k]=y:=⟨_,rfl⟩;rw [hyy] at hy hyl;have y0:wr.cell? ⟨g2,o2+k,none⟩=some (.int .i64 y):=by simpa [RInt] using hy
   have HH:=aF (qD r n y wr (cO HW.out.low HX0.out));have hsz:=HW.out.lt;by_cases hin:0<=y/\y<(n:Int)
   case neg=>
    have E1:Hid ((decide (0<=y) && decide (y<(n:Int)))=false):=aF (by simp;omega);have HCN:=aF (HC.out.pass hyl (fun h0 h1=>absurd ⟨h0,h1⟩ hin));clear hin hyl hy HC;go_wp2_with (go_at_call 80;refine HH.out.mono ?_;rintro e' w1 ⟨rfl,hw⟩;obtain rfl:=hw.symm;rw [E1.out])
    go_roundw
    case rel=>exact ⟨k+1,o,by go_num,by omega,HW,HCN⟩
    case measure=>simp [intOf];omega
   case pos=>
   have E1:Hid ((decide (0<=y) && decide (y<(n:Int)))=true):=aF (by simp [hin]);have keyy:=key3 (a:=y) hin.1 (by omega);have hown:=HW.out.own;by_cases hm:y∈o
   case pos=>
    have HFB:Hid (i64F (inF o) (.int .i64 y)=true):=aF (by simp [i64F,inF,hm]);have HCN:=aF (HC.out.pass hyl (fun _ _=>hm));have hlk:=hown.toB.look law3 Tryz.underlying74 Tryz.underlying4 (gC _) keyy;rw [HFB.out] at hlk;clear hin hyl hy HC hm;go_wp2_with (go_at_call 80;refine HH.out.mono ?_;rintro e' w1 ⟨rfl,hw⟩;obtain rfl:=hw.symm;rw [E1.out])
    go_roundw
    case rel=>exact ⟨k+1,o,by go_num,by omega,HW,HCN⟩
    case measure=>simp [intOf];omega
   case neg=>
    have HFB:Hid (i64F (inF o) (.int .i64 y)=false):=aF (by simp [i64F,inF,hm]);have HCN:=aF (HC.out.add hyl hin.1 hin.2 hm)
    have HRG:Hid (∀z∈y :: o,0<=z/\z<((1000000:Nat):Int)):=aF (fun z hz=>by
     rcases List.mem_cons.1 hz with rfl | hz
     ·omega
     ·have:=HC.out.rng z hz;omega)
    have hol:=HC.out.len;have hrow:=HW.out.row;obtain ⟨VA,vc,rfl⟩:=dE hrow;have hlk:=hown.toB.look law3 Tryz.underlying74 Tryz.underlying4 (gC _) keyy;rw [HFB.out] at hlk;clear hin hyl hy HC hm hrow
    go_wp2_with (first
     | (go_at_call 80;refine HH.out.mono ?_;rintro e' w1 ⟨rfl,hw⟩;obtain rfl:=hw.symm;rw [E1.out])
     | (at_mapUpdate;refine xIN _ rfl _ _ _ rfl w.heap.size 1000000 o rfl hown (by unfold maxLen;omega) y rfl rfl keyy ?_;intro w7 ho7 hg7;have HM7:=aF (HW.out.put ho7 hg7 HRG.out);have hown7:=HM7.out.2.2.alloc (.cells #[.int .i64 y] 3);have hsz7:w.heap.size<w7.heap.size:=HM7.out.2.1.lt;clear ho7 hg7)
     | (at_builtin;refine wpList_append_own _ rfl _ _ 34 rfl (w.heap.size+1) 3 i0 (.int .i64 0) 1 8 Tryz.underlying34 hi0 hz0 hz1 hz2 rfl (by decide) _ _ _ rfl hown7 ⟨w7.heap.size,0,none⟩ 1 1 [.int .i64 y] rfl rfl (cell_one_new _ _ _) (fun u hu=>by simp at hu;subst hu;rfl) (by unfold maxLen;omega) (by omega) (by simp;omega) ?_;intro v' w8 hown' hgrow _;have HW8:=aF (HM7.out.add hown7 hown' hgrow);clear hown' hgrow))
    go_roundw
    case rel=>exact ⟨k+1,o ++ [y],by go_num,by omega,HW8,HCN⟩
    case measure=>simp [intOf];omega
  case neg=>
  obtain rfl:k=l.length:=by omega
  clear hlt hk;go_wp2_with fail
  go_loopw [6,9] (fun v jv wr=>∃(j:Nat) (o:List Int),jv = .int .i64 j/\j<=o.length/\Hid (ClW w o v wr)/\Hid (Cl pairs n l o l.length j)) (fun _ jv _=>n - (intOf jv).toNat)
  case atStart=>exact ⟨0,o,rfl,by omega,HW,HC⟩
  case round=>
   clear HW HC;obtain ⟨j,o,rfl,hj,HW,HC⟩:=hrel;have hol:=HC.out.len;obtain ⟨VA,vc,rfl⟩:=dE HW.out.row;have HSO:=aF (xKS HW.out.row (by simp));have hso:=HSO.out.le;have hsb:=HSO.out.big;by_cases hlt:j<o.length
   case pos=>
    obtain ⟨g2,o2,rfl,hb2',hy⟩:=HSO.out.sl.at_ hlt;have hyl:=bD hlt;have hyr:=HC.out.rng _ (bM hlt);obtain ⟨y,hyy⟩:∃y,o[j]=y:=⟨_,rfl⟩;rw [hyy] at hy hyl hyr;have y0:wr.cell? ⟨g2,o2+j,none⟩=some (.int .i64 y):=(by simpa [RInt] using hy);obtain ⟨A3,c3,hlk,hsl⟩:=HLK.out y hyr.1 (by omega);have hS:wr.drew.cell? ⟨r,2,none⟩=some (.map (some (M true)))/\wr.drew.cell? ⟨g2,o2+j,none⟩=some (.int .i64 y)/\(Instr.lookup 123 (.map (some (M true))) (.int .i64 y) false).run Tryz.prog wr.drew = .ok (.slice A3 (relL pairs true y).length c3) wr.drew:=⟨cO HW.out.low.drew HX2.out,y0,hlk wr.drew HW.out.low.drew⟩;have hle3:=hsl.le;have hbig3:=hsl.big;have HSL3:=aF hsl;have hyn:=mE pairs true y;have HCM:=aF (Cm.start HC.out hyl (ys:=relL pairs true y) (fun z=>xKZ));clear hy hyl hlk hsl HC HSO;generalize relL pairs true y=ys at *;clear y0;go_wp2_with fail
    refine cT (S:=fun X=>X.cell? ⟨r,2,none⟩=some (.map (some (M true)))/\X.cell? ⟨g2,o2+j,none⟩=some (.int .i64 y)/\(Instr.lookup 123 (.map (some (M true))) (.int .i64 y) false).run Tryz.prog X = .ok (.slice A3 ys.length c3) X) [0,1,2,3,4,5,6,7,8,9,10] (by kernel_rfl) ?_;(iterate 11 (refine cR (v:=?_) ?_ hS ?_;rotate_left;(next=>(rintro X ⟨q1,q2,q3⟩;(try simp only [aI]);go_simp;rfl));simp only [aM]));refine cZ ?_;clear hS;have HW2:=aF (HW.out.keep (aX _ _).drew);obtain ⟨W2,hW2⟩:∃W2,wr.drew=W2:=⟨_,rfl⟩;rw [hW2] at HW2 ⊢;clear hW2 HW;go_wp2_with fail
    go_loopw [6,51] (fun v i wr=>∃(k:Nat) (o:List Int),i = .int .i64 k/\k<=ys.length/\j<o.length/\Hid (ClW w o v wr)/\Hid (Cm pairs n l o j y ys k)) (fun _ i _=>ys.length - (intOf i).toNat)
    case atStart=>exact ⟨0,o,rfl,by omega,hlt,HW2,HCM⟩
    case round=>
     clear HW2 HCM;obtain ⟨k,o,rfl,hk,hjo,HW,HC⟩:=hrel;by_cases hlk:k<ys.length
     case neg=>
      obtain rfl:k=ys.length:=by omega
      have HCL:=aF (HC.out.close (aY _));have hoo:=HCL.out.len;go_wp2_with fail
      go_roundw
      case rel=>exact ⟨j+1,o,by go_num,by omega,HW,HCL⟩
      case measure=>simp [intOf];omega
     case pos=>
     obtain ⟨g3,o3,rfl,hb3',hz⟩:=(HSL3.out.keep RInt.keeps HW.out.low).sl.at_ hlk;have hzl:=bD hlk;have hzr:=HRP.out _ ((HC.out.mem _).1 (bM hlk));obtain ⟨z,hzz⟩:∃z,ys[k]=z:=⟨_,rfl⟩;rw [hzz] at hz hzl hzr;simp only at hzr;have y0:wr.cell? ⟨g3,o3+k,none⟩=some (.int .i64 z):=(by simpa [RInt] using hz);have keyz:=key3 (a:=z) hzr.1 (by omega);have hown:=HW.out.own;have hsz:=HW.out.lt;by_cases hm:z∈o
     case pos=>
      have HFB:Hid (i64F (inF o) (.int .i64 z)=true):=aF (by simp [i64F,inF,hm]);have HCN:=aF (HC.out.pass hzl hm);clear hzl hz HC hm hzr;go_wp2_with (at_lookup;refine dD _ rfl _ _ 74 rfl 3 4 law3 Tryz.underlying74 Tryz.underlying4 (gC _) _ _ _ rfl hown.toB _ _ rfl keyz ?_;rw [HFB.out])
      go_roundw
      case rel=>exact ⟨k+1,o,by go_num,by omega,hjo,HW,HCN⟩
      case measure=>simp [intOf];omega
     case neg=>
      have HFB:Hid (i64F (inF o) (.int .i64 z)=false):=aF (by simp [i64F,inF,hm]);have HCN:=aF (HC.out.add HRP.out hzl hm)
      have HRG:Hid (∀u∈z :: o,0<=u/\u<((1000000:Nat):Int)):=aF (fun u hu=>by
       rcases List.mem_cons.1 hu with rfl | hu
       ·omega
       ·have:=HC.out.base.rng u hu;omega)
      have hol:=HC.out.base.len;have hrow:=HW.out.row;obtain ⟨VA,vc,rfl⟩:=dE hrow;clear hzl hz HC hm hrow hzr
      go_wp2_with (first
       | (at_lookup;refine dD _ rfl _ _ 74 rfl 3 4 law3 Tryz.underlying74 Tryz.underlying4 (gC _) _ _ _ rfl hown.toB _ _ rfl keyz ?_;rw [HFB.out])
       | (at_mapUpdate;refine xIN _ rfl _ _ _ rfl w.heap.size 1000000 o rfl hown (by unfold maxLen;omega) z rfl rfl keyz ?_;intro w7 ho7 hg7;have HM7:=aF (HW.out.put ho7 hg7 HRG.out);have hown7:=HM7.out.2.2.alloc (.cells #[.int .i64 z] 3);have hsz7:w.heap.size<w7.heap.size:=HM7.out.2.1.lt;clear ho7 hg7)
       | (at_builtin;refine wpList_append_own _ rfl _ _ 34 rfl (w.heap.size+1) 3 i0 (.int .i64 0) 1 8 Tryz.underlying34 hi0 hz0 hz1 hz2 rfl (by decide) _ _ _ rfl hown7 ⟨w7.heap.size,0,none⟩ 1 1 [.int .i64 z] rfl rfl (cell_one_new _ _ _) (fun u hu=>by simp at hu;subst hu;rfl) (by unfold maxLen;omega) (by omega) (by simp;omega) ?_;intro v' w8 hown' hgrow _;have HW8:=aF (HM7.out.add hown7 hown' hgrow);clear hown' hgrow))
      go_roundw
      case rel=>exact ⟨k+1,o ++ [z],by go_num,by omega,by simp;omega,HW8,HCN⟩
      case measure=>simp [intOf];omega
   case neg=>
    have HD:=aF (HC.out.done (show o.length<=j by omega));have HND:=aF HC.out.nd;have HST:=aF (zF wr (w.heap.size+1) _ _ _ HW.out.row (by simp) (by omega));clear HC HSO;go_wp2_with (go_at_call 66;refine HST.out.mono ?_;rintro e' w5 ⟨rfl,ho5,hg5⟩;have HO5:=aF ho5;have HG5:=aF hg5;clear ho5 hg5)
    go_ret;have hlt3:=fun g hg=>(HW.out.row.lt g hg).1
    have hr:=xKS (l:=o.mergeSort fun x y=>decide (x<=y)) (A:=VA) (c:=vc) (by simpa using HO5.out) (by simp);refine ⟨VA,vc,o.mergeSort fun x y=>decide (x<=y),by simp,(zE HND.out (fun _=>Iff.rfl)).iff (fun z=>HD.out z),hr,fun a ha=>?_,HW.out.low.grown HG5.out HW.out.low.size (fun g hg=>by have:=hlt3 g hg;omega)⟩;have:=hlt3 a.block (by subst ha;rfl);omega
end
section
open Go.RowKit
variable {F:Fence} {n:Nat} {P:Program}
def SeqM {α : Type} (F:Fence) (n:Nat) (P:Program) (g:Nat) (lb:Array Value) (encs : α -> Array Value) (T:TypeId->Bool) (N:Nat->Prop) (Nx:List α -> α -> Prop) (Fin:List α -> Prop) (w:World):Prop:=
 ∀(l:Nat) (J Jx:List α -> World->Prop) (W:World),Below w.heap.size w W->
  (∀s A B,J s A->Turn W.heap.size T A B->J s B)->(∀s A B,Jx s A->Turn W.heap.size T A B->Jx s B)->
  (∀pre x W1,Nx pre x->J pre W1->YieldAt F (n - 1) P l (encs x) W1 fun e W'=>
    (e = .returned (.bool true)/\J (pre ++ [x]) W'/\Kb N W.heap.size T W1 W')\/(e = .returned (.bool false)/\Jx (pre ++ [x]) W'))->
  J [] W->
  CallsIn F n P g (#[.func (.yield l) #[] #[]] ++ lb) W fun e W'=>(∃v,e = .returned v)/\((∃L,Fin L/\J L W')\/∃pre x,Nx pre x/\Jx (pre ++ [x]) W')
theorem xKO {α : Type} {g:Operand} {ps:Array Tmp} {assign body:Code} {Q:Exit->Act->World->Prop} {a:Act} {w:World}
 (hro:F.round=none) (h1:1<=n) {gf:Nat} {lb:Array Value} (hg:a.eval g = .func (.func gf) #[] lb) (hFg:F.fn gf) (eg:∀args w,(callFunc gf args).run P w = .ok (.enter gf args) w)
 {encs : α -> Array Value} {T:TypeId->Bool} {N:Nat->Prop} {Nx:List α -> α -> Prop} {Fin:List α -> Prop} {w0:World} (hseq:SeqM F (n - 1) P gf lb encs T N Nx Fin w0) (hb0:Below w0.heap.size w0 w) (hNl:∀k,N k->k<w.heap.size) (hps:∀x,(encs x).size=ps.size)
 (I:List α -> World->Prop) (Ix:Code->List α -> World->Prop) (hI:∀s A B,I s A->Turn w.heap.size T A B->I s B) (hIx:∀c s A B,Ix c s A->Turn w.heap.size T A B->Ix c s B) (h0:I [] w)
 (hround:∀(l:Nat) (pre:List α) (x : α) (W:World),Nx pre x->w.heap.size<=l->(∃r,W.heap[l]?=some (.loop r))->w.heap.size<=W.heap.size->I pre W->
   assign.wpIn (F.inRound l) (n - 1 - 1) P (Exit.then (fun a' W'=>Kb N w.heap.size T W W'/\∀W'',Rec l W' W''->body.wpIn (F.inRound l) (n - 1 - 1) P (rPost N w.heap.size T I Ix (pre ++ [x]) W'') a' W'') (fun _ _ _=>False))
    { tmps:=(ps.zip (encs x)).foldl (fun t (p,v)=>t.setIfInBounds p v) a.tmps,defers:=[] } W)
 (hdone:∀(D:Nat) (L:List α) (W:World),w.heap.size<=D->Fin L->I L W->W.heap[D]?=some (.deferred (some []))->Q .normal { a with defers:={ target:= .collected D,args:= #[] } :: a.defers } W)
 (hstop:∀(D:Nat) (c:Code) (pre:List α) (x : α) (W:World),w.heap.size<=D->Nx pre x->Ix c (pre ++ [x]) W->W.heap[D]?=some (.deferred (some []))->c.wpIn F n P Q { a with defers:={ target:= .collected D,args:= #[] } :: a.defers } W):
 (Code.rangeFunc g ps assign body).wpIn F n P Q a w:=by
 refine wpIn_rangeFunc ?_;intro fn hfn;rw [hro];obtain ⟨rec,hrec⟩:∃rec:LoopState->Option Code->Loop,rec=fun st pe=>{ state:=st,pending:=pe,fn,tmps:=a.tmps,params:=ps,assign,body,defers:=w.heap.size }:=⟨_,rfl⟩
 obtain ⟨W1,hW1⟩:∃W1,(w.alloc (.deferred (some []))).alloc (.loop (rec .ready none))=W1:=⟨_,rfl⟩
 have hL1:W1.heap[w.heap.size+1]?=some (.loop (rec .ready none)):=by
  rw [<- hW1];have:=World.alloc_heap_new (w.alloc (.deferred (some []))) (.loop (rec .ready none));rwa [bI] at this
 have hK1:W1.heap[w.heap.size]?=some (.deferred (some [])):=by
  rw [<- hW1];exact (Below.heap_alloc _ _ _ (by simp)).trans (World.alloc_heap_new w _)
 have hbw:Below w.heap.size w W1:=by rw [<- hW1];exact ((aX _ w).alloc (aY _) _).alloc (by simp) _
 have hI1:I [] W1:=hI _ _ _ h0 (Turn.of_below hbw);have hb1:Below w0.heap.size w0 W1:=hb0.trans (hbw.mono hb0.size);have hsz:W1.heap.size=w.heap.size+2:=by rw [<- hW1];simp
 refine ⟨w.heap.size+1,[{ target:= .collected w.heap.size,args:= #[] }],W1,{ target:= .fn (.func gf) lb,args:= #[.func (.yield (w.heap.size+1)) #[] #[]] },W1,gf,
  #[.func (.yield (w.heap.size+1)) #[] #[]] ++ lb,W1,?_,?_,?_,?_,fun _=>h1,?_⟩
 ·rw [<- hW1,hrec];exact run_enterLoop_outer _ _ _ _ _
 ·simp only [resolve,hg];simp [go_sem]
 ·intro f' hf';simp [Target.leads] at hf';subst hf';exact hFg
 ·simp [invoke,go_sem,eg]
 ·refine (hseq (w.heap.size+1)
   (fun pre W=>I pre W/\W.heap[w.heap.size+1]?=some (.loop (rec .ready none))/\W.heap[w.heap.size]?=some (.deferred (some []))/\w.heap.size+2<=W.heap.size)
   (fun pre W=>∃c,Ix c pre W/\W.heap[w.heap.size+1]?=some (.loop (rec .done (some c)))/\W.heap[w.heap.size]?=some (.deferred (some [])))
   W1 hb1
   (fun s A B hs ht=>⟨hI s A B hs.1 (ht.mono (by omega)),ht.block_low (by omega) hs.2.1,ht.block_low (by omega) hs.2.2.1,bX hs.2.2.2 ht.size⟩)
   (fun s A B hs ht=>by
     obtain ⟨c,hc,hl,hk⟩:=hs
     exact ⟨c,hIx c s A B hc (ht.mono (by omega)),ht.block_low (by omega) hl,ht.block_low (by omega) hk⟩)
   ?_ ⟨hI1,hL1,hK1,by omega⟩).mono ?_
  ·rintro pre x W hL ⟨hi,hl,hk,hws⟩;have hy:=run_yield (P:=P) (args:=encs x) hl (by rw [hrec];exact hps x);rw [hrec] at hy;refine ⟨fn,_,assign,body,hy,roundIn_of_wpIn hfn (wpIn_mono (hround _ pre x W hL (by omega) ⟨_,hl⟩ (by omega) hi) ?_)⟩;clear hy;rintro e a1 Wa hq;cases e with
   | normal=>
     obtain ⟨hka,hbody⟩:=hq;have hla:=hka.same _ _ (by omega) hl rfl;have hkk:=hka.same _ _ (aY _) hk rfl;refine ⟨_,run_beginRound hla (by rw [hrec]),wpIn_mono (hbody _ (xCZ _ hla)) ?_⟩;have hlb:(Wa.putObj (w.heap.size+1) (.loop { rec .ready none with state:= .busy })).heap[w.heap.size+1]?=some (.loop { rec .ready none with state:= .busy }):=World.putObj_heap_same (Array.getElem?_eq_some_iff.1 hla).1;have hkb:(Wa.putObj (w.heap.size+1) (.loop { rec .ready none with state:= .busy })).heap[w.heap.size]?=some (.deferred (some [])):=(World.putObj_heap_other (by omega)).trans hkk;have hsb:w.heap.size+2<=(Wa.putObj (w.heap.size+1) (.loop { rec .ready none with state:= .busy })).heap.size:=by simp;exact bX hws hka.size
     have fin:∀(jump:Option Code) (W3:World),Kb N w.heap.size T (Wa.putObj (w.heap.size+1) (.loop { rec .ready none with state:= .busy })) W3->
      (Instr.endRound (w.heap.size+1) jump).run P W3 = .ok (.bool jump.isNone) (W3.putObj (w.heap.size+1) (.loop (rec (if jump.isNone then .ready else .done) jump)))/\
      W3.heap[w.heap.size+1]?=some (.loop { rec .ready none with state:= .busy })/\
      (W3.putObj (w.heap.size+1) (.loop (rec (if jump.isNone then .ready else .done) jump))).heap[w.heap.size+1]?=some (.loop (rec (if jump.isNone then .ready else .done) jump))/\
      (W3.putObj (w.heap.size+1) (.loop (rec (if jump.isNone then .ready else .done) jump))).heap[w.heap.size]?=some (.deferred (some []))/\
      Kb N W1.heap.size T W (W3.putObj (w.heap.size+1) (.loop (rec (if jump.isNone then .ready else .done) jump)))/\
      w.heap.size+2<=(W3.putObj (w.heap.size+1) (.loop (rec (if jump.isNone then .ready else .done) jump))).heap.size:=fun jump W3 hk3=>by
      have hl3:=hk3.same _ _ (by omega) hlb rfl;have hr:=run_endRound (P:=P) jump hl3;rw [hrec] at hr hl3 ⊢
      have kput:∀(X:World) (o o':Obj),X.heap[w.heap.size+1]?=some o->Kb N W1.heap.size T X (X.putObj (w.heap.size+1) o'):=fun X o o' hX=>
       ⟨rfl,rfl,rfl,by simp,fun k hk _=>World.putObj_heap_other (by have:=hNl k hk;omega),fun k o1 hk hX1 _=>(World.putObj_heap_other (by omega)).trans hX1⟩
      rw [hrec] at hk3 hla;refine ⟨hr,hl3,World.putObj_heap_same (Array.getElem?_eq_some_iff.1 hl3).1,(World.putObj_heap_other (by omega)).trans (hk3.same _ _ (aY _) (by rw [hrec] at hkb;exact hkb) rfl),?_,?_⟩
      ·exact (((hka.mono (by omega)).trans (kput _ _ _ hla)).trans (hk3.mono (by omega))).trans (kput _ _ _ hl3)
      ·have h5:=hk3.size;rw [World.putObj_size] at h5 ⊢;exact bX (by rw [World.putObj_size] at hsb;exact hsb) h5
     rintro e a3 W3 hp;cases e with
     | normal=>
       obtain ⟨hk3,hi3⟩:=hp;obtain ⟨hr,hl3,hl4,hk4,hk5,hs5⟩:=fin none W3 hk3;exact ⟨_,_,hr,.inl ⟨rfl,⟨hI _ _ _ hi3 (Turn.putObj _ hl3 (by omega) rfl),hl4,hk4,hs5⟩,hk5⟩⟩
     | ret=>
       obtain ⟨hk3,hi3⟩:=hp;obtain ⟨hr,hl3,hl4,hk4,hk5,hs5⟩:=fin (some .ret) W3 hk3;exact ⟨_,_,hr,.inr ⟨rfl,.ret,hIx _ _ _ _ hi3 (Turn.putObj _ hl3 (by omega) rfl),hl4,hk4⟩⟩
     | exit id=>
       obtain ⟨hk3,hi3⟩:=hp;obtain ⟨hr,hl3,hl4,hk4,hk5,hs5⟩:=fin (some (.exit id)) W3 hk3;exact ⟨_,_,hr,.inr ⟨rfl,.exit id,hIx _ _ _ _ hi3 (Turn.putObj _ hl3 (by omega) rfl),hl4,hk4⟩⟩
     | goto t=>
       obtain ⟨hk3,hi3⟩:=hp;obtain ⟨hr,hl3,hl4,hk4,hk5,hs5⟩:=fin (some (.goto t)) W3 hk3;exact ⟨_,_,hr,.inr ⟨rfl,.goto t,hIx _ _ _ _ hi3 (Turn.putObj _ hl3 (by omega) rfl),hl4,hk4⟩⟩
     | panic ch=>exact hp.elim
     | outgrown=>exact hp.elim
   | exit id=>exact hq.elim
   | goto t=>exact hq.elim
   | ret=>exact hq.elim
   | panic chain=>exact hq.elim
   | outgrown=>exact hq.elim
  ·rintro e W2 ⟨⟨v,rfl⟩,(⟨L,hF,hi,hl,hk,_⟩ | ⟨pre,x,hL,c,hi,hl,hk⟩)⟩
   ·exact ⟨none,_,by have:=run_endLoop (P:=P) hl (by rw [hrec];simp);rw [hrec] at this;exact this,hdone _ _ _ (aY _) hF (hI _ _ _ hi (Turn.putObj _ hl (by omega) rfl)) ((World.putObj_heap_other (by omega)).trans hk)⟩
   ·exact ⟨some c,_,by have:=run_endLoop (P:=P) hl (by rw [hrec];simp);rw [hrec] at this;exact this,hstop _ c pre x _ (aY _) hL (hIx c _ _ _ hi (Turn.putObj _ hl (by omega) rfl)) ((World.putObj_heap_other (by omega)).trans hk)⟩
end
section
open Go Go.RowKit
attribute [local irreducible] Calls
def locU (b:Bdy):List Int:=(List.range b.locals.length).map (fun (i:Nat)=>(i:Int))
theorem xLL {b:Bdy} {z:Int} (h:LocIn b z):z∈locU b:=by
 unfold LocIn at h;unfold locU;rw [xIL];exact ⟨z.toNat,List.mem_range.2 (by omega),by omega⟩
theorem Ok12.targets {b:Bdy} (h:Ok12 b):∀x∈b.blocks,x.term.targets.length<=1000000000000:=fun x hx=>by
 have:=(xR h.chk).blks x hx;omega
theorem Ok12.uses {b:Bdy} (h:Ok12 b):∀p,∀z∈usP b.blocks p,z∈locU b/\Sml z:=fun _p _z hz=>⟨xLL (xEG h.chk hz),h.sml hz⟩
theorem Ok12.ulen {b:Bdy} (h:Ok12 b):(locU b).length<=1000:=by
 have:=h.loc;unfold locU;simp;omega
def LocQ (b:Bdy) (w:World) (e':Ending) (w':World):Prop:=∃A c ll,e' = .returned (.slice A ll.length c)/\ll.length=cntB b.blocks/\(∀(k:Nat) (l:List Int),ll[k]?=some l->Srt l (fun z=>Lv b.blocks z (k:Int)))/\Slc 1 (RSl 1 RInt) w' A c ll/\Below w.heap.size w w'
theorem xKT (b:Bdy) (bh:BH) (w:World) (H:BdAt w b bh) (h:Ok12 b):Calls Tryz.prog 21 #[.agg (bdC b bh).toArray] w (LocQ b w):=
 qA b bh w (locU b) H (by have:=h.cnt;omega) (by have:=h.ns.blk;omega) h.targets h.uses h.ulen
end
section
open Go Go.RowKit Go.Maps Go.WideMaps
def OwnP (w:World) (b n:Nat) (ps:List (Int × Int)):Prop:=
 ∃D:DataW Unit,w.ownsMap Tryz.prog 43 (plainElem Tryz.prog 4) b n D/\(∀s t,(Lit.int .i64 s).wf=true->(Lit.int .i64 t).wf=true->Maps.has D (pairL s t)=decide ((s,t)∈ps))/\
  (∀kl,Maps.has D kl=true->∃s t,(s,t)∈ps/\kl=pairL s t)/\∀p∈ps,(Lit.int .i64 p.1).wf=true/\(Lit.int .i64 p.2).wf=true
end
section
open Go Go.RowKit Go.Maps Go.WideMaps
variable {w:World} {b n:Nat} {ps:List (Int × Int)}
theorem OwnP.made (w:World):OwnP (w.alloc (.map #[] 0)) w.heap.size 0 []:=
 ⟨.map [],World.ownsMap_made w _ _ _,fun s t _ _=>by simp [Maps.has],fun kl h=>by simp [Maps.has] at h,by simp⟩
theorem OwnP.lt (h:OwnP w b n ps):b<w.heap.size:=by
 obtain ⟨D,h1,_⟩:=h;exact h1.lt
theorem OwnP.block {w':World} (h:OwnP w b n ps) (hb:w'.heap[b]?=w.heap[b]?):OwnP w' b n ps:=by
 obtain ⟨D,⟨es,clock,h1,h3,h4,h5⟩,h2⟩:=h;exact ⟨D,⟨es,clock,hb.trans h1,h3,h4,h5⟩,h2⟩
theorem OwnP.below {w':World} (h:OwnP w b n ps) (hb:Below w.heap.size w w'):OwnP w' b n ps:=h.block (hb.block b h.lt)
theorem OwnP.alloc (h:OwnP w b n ps) (o:Obj):OwnP (w.alloc o) b n ps:=h.below ((aX _ _).alloc (aY _) _)
theorem OwnP.obj (h:OwnP w b n ps):∃es c,w.heap[b]?=some (.map es c):=by
 obtain ⟨D,⟨es,clock,h1,_⟩,_⟩:=h;exact ⟨_,_,h1⟩
theorem OwnP.store (h:OwnP w b n ps) (hn:n<maxLen) {x y:Int} (hx:(Lit.int .i64 x).wf=true) (hy:(Lit.int .i64 y).wf=true):
 ∃w',(Instr.mapUpdate 94 (.map (some b)) (.agg #[.int .i64 x,.int .i64 y]) (.bool true)).run Tryz.prog w = .ok () w'/\OwnP w' b (n+1) ((x,y) :: ps)/\w.grownBy w' (some b):=by
 obtain ⟨D,h1,h2,h3,h4⟩:=h;obtain ⟨w',hrun,g1,g2⟩:=h1.update (Keyed.of_law arrP.law) Tryz.underlying94 hn (keyOf_pair arrP Tryz.underlying3 progN hx hy) (jW Tryz.underlying4 true);have hk:WideAt.IsKeyLit (pairL x y):=trivial;refine ⟨w',hrun,⟨_,g1,fun s t hs ht=>?_,fun kl hkl=>?_,fun p hp=>?_⟩,g2⟩
 ·by_cases e:pairL s t=pairL x y
  ·obtain ⟨rfl,rfl⟩:=nQ hs ht hx hy e;refine (has_put_same h1.isMap hk _).trans ?_;simp
  ·have hne:¬(s=x/\t=y):=fun e'=>e (by rw [e'.1,e'.2])
   refine (has_put_other e _).trans ?_;rw [h2 s t hs ht];exact decide_eq_decide.2 ⟨fun hm=>List.mem_cons_of_mem _ hm,fun hm=>(List.mem_cons.1 hm).elim (fun e'=>absurd (Prod.mk.injEq .. ▸ e') hne) id⟩
 ·by_cases e:kl=pairL x y
  ·exact ⟨x,y,by simp,e⟩
  ·have hkl':=(has_put_other e _).symm.trans hkl;obtain ⟨s,t,hm,rfl⟩:=h3 kl hkl';exact ⟨s,t,List.mem_cons_of_mem _ hm,rfl⟩
 ·rcases List.mem_cons.1 hp with rfl | hp
  ·exact ⟨hx,hy⟩
  ·exact h4 p hp
end
section
open Go Go.RowKit Go.Maps Go.WideMaps
theorem xJD (w:World) {ops:Array Oper} {rest:List Oper} {o:Oper} {a:Act} {Q:Exit->Act->World->Prop}
 (hg:o.guard=none) (m x v:Operand) (hop:o.op=Op.mapUpdate 94 m x v) (b n:Nat) (ps:List (Int × Int))
 (hm:a.eval m = .map (some b)) (hown:OwnP w b n ps) (hn:n<maxLen) (s t:Int) (hx:a.eval x = .agg #[.int .i64 s,.int .i64 t]) (hv:a.eval v = .bool true) (h1:(Lit.int .i64 s).wf=true) (h2:(Lit.int .i64 t).wf=true)
 (hK:∀w',OwnP w' b (n+1) ((s,t) :: ps)->w.grownBy w' (some b)->wpList Tryz.prog ops Q rest (a.put o.dst undef) w'):
 wpList Tryz.prog ops Q (o :: rest) a w:=by
 refine wpList_plain hg fun K' hK'=>?_
 obtain ⟨w',hrun,r1,r2⟩:=hown.store hn h1 h2;unfold Oper.wp;simp [execOp,hop,hm,hx,hv,hrun,Result.andThen];exact hK' _ _ (hK w' r1 r2)
end
section
open Go Go.RowKit Go.Maps Go.WideMaps Go.Sort Go.Shelf
def encP (z:Int × Int):Value:= .agg #[.int .i64 z.1,.int .i64 z.2]
theorem xIO {P:Program} {k e:TypeId} {q:IntKind} (A:ArrKey P k e 2) (he:P.underlying e=some (.int q)) (hsz:∃m,P.types.size=m+1) {v:Value} {kl:Lit} (h:keyOf P k v=some kl):
 ∃a b:Int,v = .agg #[.int q a,.int q b]/\(Lit.int q a).wf=true/\(Lit.int q b).wf=true/\kl = .string (keyBytes [.int q a,.int q b]):=by
 have hkt:=A.keyType hsz;obtain ⟨m,hm⟩:=hsz;unfold keyOf at h;simp only [A.hu] at h;split at h
 ·rename_i hf;rw [hm] at h;simp only [bP] at hf;have hf2:=hf.2;unfold Value.formed at hf2;simp only [A.hu] at hf2;cases v <;> simp at hf2
  rename_i cs;obtain ⟨cs⟩:=cs;simp only [Value.cells,A.size] at h hf2;match cs,hf2 with
  | [c0,c1],_=>
    unfold Program.keyLits at h;simp only [A.hu] at h;rw [bA (by rw [A.size];rfl),show List.range 2=[0,1] from rfl,List.mapM_cons,List.mapM_cons,List.mapM_nil] at h
    have key:∀c ls,P.keyLits (m+1) e [c]=some ls->∃a:Int,c = .int q a/\(Lit.int q a).wf=true/\ls=[.int q a]:=fun c ls hc=>by
     unfold Program.keyLits at hc;simp only [he] at hc;cases c <;> simp at hc
     obtain ⟨⟨rfl,hw⟩,rfl⟩:=hc;exact ⟨_,rfl,hw,rfl⟩
    simp only [A.one,bind,Option.bind_eq_some_iff,pure,Option.map_eq_some_iff,cI] at h;obtain ⟨ls,⟨xs,⟨l0,h0,ys,⟨l1,h1,_,rfl,rfl⟩,rfl⟩,rfl⟩,rfl⟩:=h;obtain ⟨a,rfl,wa,rfl⟩:=key _ _ h0;obtain ⟨b,rfl,wb,rfl⟩:=key _ _ h1;exact ⟨a,b,rfl,wa,wb,rfl⟩
 ·cases h
theorem xIP {α : Type} [DecidableEq α]:∀(l ps:List α),l.Nodup->(∀x∈l,x∈ps)->l.length<=ps.length
 | [],_,_,_=>Nat.zero_le _
 | x :: l,ps,hn,hs=>by
   obtain ⟨h1,h2⟩:=List.nodup_cons.1 hn;have hx:=hs x (by simp);have:=xIP l (ps.erase x) h2 (fun y hy=>(List.mem_erase_of_ne (fun e=>h1 (by rw [<- e];exact hy))).2 (hs y (by simp [hy])));rw [List.length_erase_of_mem hx] at this;have:=List.length_pos_of_mem hx;simp;omega
def ColP (ps:List (Int × Int)) (left:Lit->Bool) (ss:List (Int × Int)):Prop:=ss.Nodup/\∀z,z∈ss↔z∈ps/\left (pairL z.1 z.2)=false
theorem xLG (mb:Option Nat) (W:World):Calls Tryz.prog 49 #[.map mb] W fun e w'=>e = .returned (.func (.func 83) #[] #[.pointer (some ⟨W.heap.size,0,none⟩)])/\w'=W.alloc (.cells #[.map mb] 94):=by
 go_enter Tryz.func49,Tryz.ntmps49
 go_wp2_with fail
 go_ret;exact ⟨rfl,rfl⟩
end
section
open Go Go.RowKit Go.Maps Go.WideMaps Go.Sort Go.Shelf
variable {P:Program} {H:Type} {k:TypeId} {R:Value->Option (DataW H × List MemPlace)} {w w':World} {b r n:Nat} {D:DataW H} {left:Lit->Bool} {cnt:Nat}
theorem xIZ (h:w.ranges P k R b r n D left cnt):∃m s t c,w.heap[r]?=some (.mapIter m s t c):=by
 obtain ⟨es,clock,since,seen,c0,g1,F,hs,hD,g2,rest⟩:=h;exact ⟨_,_,_,_,g2⟩
theorem xIX (h:w.ranges P k R b r n D left cnt):r<w.heap.size/\b<w.heap.size:=⟨h.lt,h.owns.lt⟩
theorem xIY (h:w.ranges P k R b r n D left cnt) (hb:w'.heap[b]?=w.heap[b]?) (hr:w'.heap[r]?=w.heap[r]?):w'.ranges P k R b r n D left cnt:=by
 obtain ⟨es,clock,since,seen,c0,g1,F,hs,hD,g2,rest⟩:=h;exact ⟨es,clock,since,seen,c0,hb.trans g1,F,hs,hD,hr.trans g2,rest⟩
end
section
open Go Go.RowKit Go.Maps Go.WideMaps Go.Sort Go.Shelf
theorem keysM (n:Nat) (hn:1<=n) (Bm b nn:Nat) (ps:List (Int × Int)) (w:World) (hBm:Bm<w.heap.size) (hm0:w.cell? ⟨Bm,0,none⟩=some (.map (some b))) (hown0:OwnP w b nn ps):
 SeqM Fence.wide n Tryz.prog 83 #[.pointer (some ⟨Bm,0,none⟩)] (fun z:Int × Int=> #[encP z]) (fun _=>false) (fun k=>k<w.heap.size) (fun pre x=>x∈ps/\x∉pre) (fun L=>L.Nodup/\∀z,z∈L↔z∈ps) w:=by
 intro l J Jx W hW hJ hJx hY h0;have hown:=hown0.below hW;have hm:=(hW.cell (p:=⟨Bm,0,none⟩) hBm).trans hm0;have hbl:=hown0.lt;clear hown0 hm0;change CallsIn Fence.wide n Tryz.prog 83 #[.func (.yield l) #[] #[],.pointer (some ⟨Bm,0,none⟩)] W _;obtain ⟨D0,hown,hh2,hh3,hh4⟩:=hown;have HK:=aF (Keyed.of_law arrP.law);refine callsIn_of_wp Tryz.func83 rfl trivial ?_ rfl;simp only [Tryz.ntmps83,List.size_toArray,bK,bO,Nat.reduceAdd,Nat.reduceSub,Array.replicate_succ,Array.replicate_zero,List.push_toArray,List.append_toArray,List.nil_append,List.cons_append]
 gi_wp2_with (first
  | (gi_at_range;refine wpListIn_range_own _ rfl _ 94 rfl 43 4 HK.out Tryz.underlying94 _ b nn _ rfl hown ?_;intro w0 hrg0 hg0 hs0)
  | gi_in)
 try go_frame
 gi_loopw [3] (fun _ wr=>∃(left:Lit->Bool) (cnt:Nat) (ss:List (Int × Int)),wr.ranges Tryz.prog 43 (plainElem Tryz.prog 4) b W.heap.size nn D0 left cnt/\ColP ps left ss/\J ss wr)
  (fun _ wr=>wr.rangeLeft b W.heap.size)
 case atStart=>
  exact ⟨_,_,[],hrg0,⟨List.nodup_nil,fun z=>⟨fun h=>(by cases h),fun ⟨a,c⟩=>(by
   have h2:=hh4 z a;rw [hh2 z.1 z.2 h2.1 h2.2] at c
   simp [a] at c)⟩⟩,hJ _ _ _ h0 (Turn.of_below ⟨hg0.os,hg0.tape,hg0.output,hg0.size,fun k hk=>hg0.block k hk (by simp)⟩)⟩
 case round=>
  obtain ⟨left,cnt,ss,hrg,hC,hJs⟩:=hrel
  gi_wp2_with (first
   | (gi_at_next;refine wpListIn_next_ranges _ rfl _ rfl 43 HK.out (plainElem Tryz.prog 4) encP id (fun key kl hk=>by obtain ⟨a,c,e,_⟩:=xIO arrP Tryz.underlying3 progN hk;exact ⟨(a,c),e⟩) (fun v _ _=>⟨v,rfl⟩) b W.heap.size nn _ _ _ rfl hrg ?_ ?_)
   | gi_in)
  ·intro hc0 hl0;gi_wp2
   go_end0
   exact ⟨⟨_,rfl⟩,.inl ⟨ss,⟨hC.1,fun z=>(hC.2 z).trans ⟨fun h=>h.1,fun h=>⟨h,hl0 _⟩⟩⟩,hJs⟩⟩
  ·intro xa xb c kl yd yp w2 cnt2 hkey hlk hv hat hrg2 hlt hg2 hs2 hen;obtain ⟨ya,yb,ey,wa,wb,rfl⟩:=xIO arrP Tryz.underlying3 progN hkey;unfold encP at ey;simp only [Value.agg.injEq] at ey;obtain ⟨rfl,rfl⟩:xa=ya/\xb=yb:=by simpa using ey
   have hhas:=has_true_of_atKey hat;obtain ⟨s,t,hst,est⟩:=hh3 _ hhas;obtain ⟨ws,wt⟩:=hh4 _ hst;obtain ⟨rfl,rfl⟩:=nQ wa wb ws wt est
   have hns:(xa,xb)∉ss:=fun hm=>by
    have:=((hC.2 _).1 hm).2;unfold pairL at this;rw [hlk] at this;cases this
   obtain ⟨ms,ss0,ts0,cs0,hit⟩:=xIZ hrg
   have hJ2:J ss w2:=hJ _ _ _ hJs ⟨hg2.os,hg2.tape,hg2.output,hg2.size,fun k hk hA=>hg2.block k hA (by simp;omega),fun k o hA ho=>(hg2.block k (Array.getElem?_eq_some_iff.1 hA).1 (fun e=>by
    injection e with e;subst e
    rw [hit] at hA;injection hA with hA;subst hA;cases ho)).trans hA⟩
   have hJ3:J ss (w2.alloc (.cells #[.int .i64 xa,.int .i64 xb] 43)):=hJ _ _ _ hJ2 (Turn.of_below (alF _ _));obtain ⟨fn,tmps,assign,body,hy,hR⟩:=hY ss (xa,xb) _ ⟨hst,hns⟩ hJ3;have hrg3:=xIY hrg2 ((alF w2 (.cells #[.int .i64 xa,.int .i64 xb] 43)).block _ (xIX hrg2).2) ((alF w2 (.cells #[.int .i64 xa,.int .i64 xb] 43)).block _ (xIX hrg2).1)
   have hC2:ColP ps (fun z=>left z && !z.sameKey (.string (keyBytes [.int .i64 xa,.int .i64 xb]))) (ss ++ [(xa,xb)]):=by
    refine ⟨jV hC.1 (fun y hy e=>hns (e ▸ hy)),fun z=>?_⟩;obtain ⟨z1,z2⟩:=z;rw [cK,bR,hC.2];by_cases e:(z1,z2)=(xa,xb)
    ·injection e with e1 e2
     subst e1 e2;have hself:(pairL z1 z2).sameKey (.string (keyBytes [.int .i64 z1,.int .i64 z2]))=true:=WideAt.sameKey_self (a:=pairL z1 z2) trivial;simp only [hself,Bool.not_true,Bool.and_false,and_true,or_true,true_iff];exact hst
    ·constructor
     ·rintro (⟨a,c⟩ | e')
      ·exact ⟨a,by simp only at c ⊢;rw [c,Bool.false_and]⟩
      ·exact absurd e' e
     ·rintro ⟨a,c⟩;refine .inl ⟨a,?_⟩;have h2:=hh4 _ a
      have hd:(pairL z1 z2).sameKey (.string (keyBytes [.int .i64 xa,.int .i64 xb]))=false:=by
       rw [Bool.eq_false_iff];intro hs;have:=WideAt.sameKey_eq hs;obtain ⟨e1,e2⟩:=nQ h2.1 h2.2 wa wb this;exact e (Prod.ext e1 e2)
      simpa [hd] using c
   unfold encP at hy hen ⊢;simp only at hy hen ⊢;clear hs2;gi_wp2
   refine hR.mono ?_;obtain ⟨ms1,ss1,ts1,cs1,hit3⟩:=xIZ hrg3;have hb3:=(xIX hrg3).2;rintro e W4 (⟨rfl,hJ4,hk4⟩ | ⟨rfl,hx4⟩)
   ·gi_wp2
    have hrg4:=xIY hrg3 (hk4.low b hbl hb3) ((hk4.same _ _ (aY _) hit3 rfl).trans hit3.symm);go_roundw
    case rel=>exact ⟨_,cnt2,ss ++ [(xa,xb)],hrg4,hC2,hJ4⟩
    case measure=>rw [hrg4.left_eq,hrg.left_eq];exact hlt
   ·gi_wp2
    first | (simp only [Exit.inBlock,Exit.then];refine bodyPost_ret (results_none rfl _ _ _) rfl ?_) | refine bodyPost_ret (results_none rfl _ _ _) rfl ?_
    exact ⟨⟨_,rfl⟩,.inr ⟨ss,(xa,xb),⟨hst,hns⟩,hx4⟩⟩
end
section
open Go Go.RowKit Go.Maps Go.WideMaps Go.Sort Go.Shelf
structure ApS (W0:World) (lc:Nat) (W:World) (v:Value) (L:List (Int × Int)):Prop where
 head:W.heap[lc]?=some (.cells #[v] 23 (0,0))
 own:W.ownsRow W0.heap.size 43 2 v L.length (L.flatMap prC)
 eb:Eb W0 lc W
end
section
open Go Go.RowKit Go.Maps Go.WideMaps Go.Sort Go.Shelf
variable {W0 A B:World} {lc lr:Nat} {v:Value} {L:List (Int × Int)}
theorem ApS.turn (h:ApS W0 lc A v L) (hl:lc<W0.heap.size) {T:TypeId->Bool} (hT:T 43=false) (ht:Turn W0.heap.size T A B):ApS W0 lc B v L:=
 ⟨ht.block_low hl h.head,ht.grownBy hT h.own,h.eb.turn ht⟩
theorem ApS.then_ (h:ApS W0 lc A v L) (hb:Below A.heap.size A B):ApS W0 lc B v L:=
 ⟨(hb.block _ (Array.getElem?_eq_some_iff.1 h.head).1).trans h.head,dG h.own hb,h.eb.then_ hb⟩
theorem ApS.rec_ (h:ApS W0 lc A v L) (hr:Rec lr A B) (hl:W0.heap.size<=lr):ApS W0 lc B v L:=by
 refine ⟨hr.cells h.head,⟨h.own.1,?_⟩,⟨hr.os.trans h.eb.os,hr.tape.trans h.eb.tape,hr.output.trans h.eb.output,by rw [hr.size];exact h.eb.size,fun k hk hne=>(hr.block k (by omega)).trans (h.eb.keep k hk hne)⟩⟩;rcases h.own.2 with hn | ⟨g,cap,cur,hv,hg,hh,rest⟩
 ·exact .inl hn
 ·exact .inr ⟨g,cap,cur,hv,hg,hr.cells hh,rest⟩
end
end Go.Proofs.YtcfchohkmkilpaaGreatDoor
