/-
  Parts of the proof: HP HQ KV HR HT HU V71 KS.
-/
import Derived.Sort.WalkA
import Derived.Test.YtkaigkfbkpinlaaGreatDoorFP0
import Derived.Test.YtkaigkfbkpinlaaGreatDoorFP15
import Derived.Test.YtkaigkfbkpinlaaGreatDoorFP11
import Derived.Test.YtkaigkfbkpinlaaGreatDoorFP5
import Derived.Test.YtkaigkfbkpinlaaGreatDoorFP9
import Derived.Test.YtkaigkfbkpinlaaGreatDoorFP10
import Derived.Test.YtkaigkfbkpinlaaGreatDoorFP7
import Derived.Test.YtkaigkfbkpinlaaGreatDoorFP12
import Derived.Test.YtkaigkfbkpinlaaGreatDoorFP13
import Derived.Test.YtkaigkfbkpinlaaGreatDoorFP3
import Derived.Test.YtkaigkfbkpinlaaGreatDoorFP2
namespace Go.Proofs.YtkaigkfbkpinlaaGreatDoor
set_option maxRecDepth 100000
set_option maxHeartbeats 16000000
section
open Go Go.RowKit Go.Maps
abbrev Tr:=Option Addr × List Int × Nat
def encTr (t:Tr):Value:= .slice t.1 t.2.1.length t.2.2
def RTr:Rd Tr:=fun w _ b o t=>w.cell? ⟨b,o,none⟩=some (encTr t)
theorem yU {w:World} {A:Option Addr} {c:Nat} {tr:List Tr} (h:Slc 1 RTr w A c tr) (hr:∀t∈tr,Slc 1 RInt w t.1 t.2.2 t.2.1):Slc 1 (RSl 1 RInt) w A c (tr.map (·.2.1)):=
 ⟨fun hn=>by
   obtain ⟨b,off,hA,hlt,hx⟩:=h.sl (by simpa using hn);refine ⟨b,off,hA,hlt,fun i x hi=>?_⟩;rw [cP] at hi;cases e:tr[i]? with
   | none=>rw [e] at hi;cases hi
   | some t=>
     rw [e] at hi;injection hi with hi
     subst hi;have h1:=hr t (List.mem_of_getElem? e)
     exact ⟨t.1,t.2.2,hx i t e,h1.le,h1.big,h1.sl⟩,by simpa using h.le,h.big⟩
theorem qY {w:World} {base n:Nat} {A:Option Addr} {c:Nat} {l:List Int} (h:w.ownsRow base 3 1 (.slice A l.length c) n (l.map (Value.int .i64))) (hn:l.length=n):Slc 1 RInt w A c l:=by
 obtain ⟨A',c',hv,hs,_⟩:=gR (R:=RInt) (fun _ _ _ _ _ h=>h) h hn;subst hn;injection hv with e1 e2 e3
 rw [e1,e3];exact hs
theorem vG {w:World} {base base':Nat} {e:TypeId} {k n:Nat} {v:Value} {xs:List Value} (h:w.ownsRow base e k v n xs) (hb:base'<=base):w.ownsRow base' e k v n xs:=
 ⟨h.1,h.2.imp id (fun ⟨g,cap,cur,h1,h2,h3⟩=>⟨g,cap,cur,h1,cA hb h2,h3⟩)⟩
theorem xEV:(Tryz.prog.info? 48).map (fun i=>(i.zero,i.size,i.bytes))=some (some (.slice none 0 0),1,24):=by kernel_rfl
end
section
open Go Go.RowKit Go.Maps
structure EffW (eb mb n:Nat) (sl:List Int) (d:Int) (hd:Bool) (W:World):Prop where
 blk:W.heap[eb]?=some (.cells #[.map (some mb),.int .i64 d,.bool hd] 200 (0,0))
 own:OwnI W mb n sl
section
variable {eb mb n:Nat} {sl:List Int} {d:Int} {hd:Bool} {W:World}
theorem EffW.c0 (h:EffW eb mb n sl d hd W):W.cell? ⟨eb,0,none⟩=some (.map (some mb)):=by simp [World.cell?,h.blk]
theorem EffW.c1 (h:EffW eb mb n sl d hd W):W.cell? ⟨eb,1,none⟩=some (.int .i64 d):=by simp [World.cell?,h.blk]
theorem EffW.c2 (h:EffW eb mb n sl d hd W):W.cell? ⟨eb,2,none⟩=some (.bool hd):=by simp [World.cell?,h.blk]
theorem EffW.frozen (h:EffW eb mb n sl d hd W) (k:Nat):W.frozen? ⟨eb,k,none⟩=false:=by simp [World.frozen?,h.blk]
theorem EffW.lt (h:EffW eb mb n sl d hd W):eb<W.heap.size:=(Array.getElem?_eq_some_iff.1 h.blk).1
theorem EffW.ne (h:EffW eb mb n sl d hd W):eb≠mb:=fun e=>by
 obtain ⟨D,⟨es,clock,h1,_⟩,_⟩:=h.own;have:=h.blk;rw [e,h1] at this;cases this
theorem EffW.keep {W':World} (h:EffW eb mb n sl d hd W) (hb:Below W.heap.size W W'):EffW eb mb n sl d hd W':=
 ⟨(hb.block _ h.lt).trans h.blk,h.own.below hb⟩
theorem EffW.def_ (h:EffW eb mb n sl d hd W) (x:Int):EffW eb mb n sl x true ((W.setCell ⟨eb,1,none⟩ (.int .i64 x)).setCell ⟨eb,2,none⟩ (.bool true)):=by
 refine ⟨by simp [World.setCell,Array.getElem?_modify,h.blk],h.own.block ?_⟩;exact (bJ _ ⟨eb,2,none⟩ _ _ (by simpa using (Ne.symm h.ne))).trans (bJ _ ⟨eb,1,none⟩ _ _ (by simpa using (Ne.symm h.ne)))
end
theorem qN {W:World} {a:Addr} {v:Value} {mb n:Nat} {sl:List Int} (h:W.cell? a=some v) (ho:OwnI W mb n sl):a.block≠mb:=fun e=>by
 obtain ⟨D,⟨es,clock,h1,_⟩,_⟩:=ho;obtain ⟨cs,t,z,hc⟩:=nS h;rw [e,h1] at hc;cases hc
theorem dS {W W':World} {a:Addr} {v:Value} {mb n:Nat} {sl:List Int} (h:W.cell? a=some v) (ho:OwnI W mb n sl) (hg:W.grownBy W' (some mb)):W'.cell? a=some v:=
 (World.cell?_of_block (hg.block a.block (cF W a h) (fun e=>qN h ho (by injection e)))).trans h
theorem EffW.put {eb mb n:Nat} {sl:List Int} {d:Int} {hd:Bool} {W W':World} (h:EffW eb mb n sl d hd W) (hg:W.grownBy W' (some mb)) {m:Nat} {sl':List Int} (ho:OwnI W' mb m sl'):EffW eb mb m sl' d hd W':=
 ⟨(hg.block _ h.lt (fun e=>h.ne (by injection e))).trans h.blk,ho⟩
theorem OwnI.tight {w:World} {b n m:Nat} {sl:List Int} (h:OwnI w b n sl) (hs:∀x∈sl,0<=x/\x<(m:Int)):OwnI w b m sl:=by
 obtain ⟨D,hm,h2,h3⟩:=h;obtain ⟨es',he',-,hkl⟩:=hm.entries law3;obtain ⟨es,clock,hb,F,hsz,rfl⟩:=hm;injection he' with he'
 subst he';refine ⟨_,⟨es,clock,hb,F,?_,rfl⟩,h2,h3⟩;have ha:=fit_apart law3 F;generalize hL:es.toList.map (WideElems.rg Tryz.prog 3 (plainElem Tryz.prog 4))=L at *
 have hk:∀p∈L,∃x∈sl,p.1=Lit.int .i64 x:=fun p hp=>by
  have h4:Maps.has (.map (L.foldr DataW.insert [])) p.1=true:=by
   unfold Maps.has;rw [List.any_eq_true];refine ⟨p,mem_sorted.2 hp,?_⟩;have:=hkl p (mem_sorted.2 hp);revert this
   cases p.1 <;> simp [Lit.sameKey,WideAt.IsKeyLit]
  rw [h3] at h4;unfold i64F at h4;split at h4
  ·rename_i x hx;exact ⟨x,by simpa [inF] using h4,hx⟩
  ·cases h4
 have hlen:es.size=L.length:=by rw [<- hL];simp
 rw [hlen];let f:Lit × DataW Unit->Int:=fun p=>match p.1 with | .int _ x=>x | _=>0
 have hf:∀p∈L,∀x,p.1=Lit.int .i64 x->f p=x:=fun p _ x e=>by simp only [f];rw [e]
 have:=dY m (L.map f) (by
  unfold List.Nodup;rw [List.pairwise_map];refine List.Pairwise.imp_of_mem ?_ ha;intro p q hp hq hne e;obtain ⟨x,_,ex⟩:=hk p hp;obtain ⟨y,_,ey⟩:=hk q hq;rw [hf p hp x ex,hf q hq y ey] at e
  exact hne (by rw [ex,ey,e])) (fun z hz=>by
  obtain ⟨p,hp,rfl⟩:=List.mem_map.1 hz;obtain ⟨x,hx,ex⟩:=hk p hp;rw [hf p hp x ex]
  exact hs x hx)
 simpa using this
def Sml (z:Int):Prop:=0<=z/\z<((1000000:Nat):Int)
theorem mQ {A B:World} {r:Option Nat} (h:A.grownBy B r):A.grownBy B.drew r:=⟨h.os,h.tape,h.output,h.size,h.block⟩
theorem gV {A B:World} {r:Option Nat} (h:Below A.heap.size A B):A.grownBy B r:=⟨h.os,h.tape,h.output,h.size,fun k hk _=>h.block k hk⟩
theorem EffW.drew {eb mb n:Nat} {sl:List Int} {d:Int} {hd:Bool} {W:World} (h:EffW eb mb n sl d hd W):EffW eb mb n sl d hd W.drew:=⟨h.blk,h.own⟩
theorem eV {z:Int} (h:0<=z/\z<((1000000:Nat):Int)):keyOf Tryz.prog 3 (.int .i64 z)=some (.int .i64 z):=Maps.keyOf_int_mk Tryz.underlying3 (by simp [Lit.wf,IntKind.min,IntKind.max,IntKind.signed,IntKind.bits];omega)
theorem fY (xs:List Opd) (B:Option Addr) (d:Nat) (eb mb:Nat) (sl:List Int) (dd:Int) (hd:Bool) (w:World) (hE:EffW eb mb 1000000 sl dd hd w) (hs:∀z∈sl,Sml z) (ho:Slc 4 ROp w B d xs) (hx:∀z∈opU xs,0<=z/\z<((1000000:Nat):Int)):
 Calls Tryz.prog 190 #[.pointer (some ⟨eb,0,none⟩),.slice B xs.length d] w fun e' w'=>e' = .returned undef/\∃sl',EffW eb mb 1000000 sl' dd hd w'/\(∀z,z∈sl'↔z∈sl\/z∈opU xs)/\(∀z∈sl',Sml z)/\w.grownBy w' (some mb):=by
 have HE:=aH hE;have HO:=aH ho;have hol:=ho.le;have hob:=ho.big;have HX:=aH hx;have HSM:=aH hs;clear hE ho hx hs;go_enter Tryz.func190,Tryz.ntmps190
 go_wp2_with fail
 go_loopw [8] (fun v wr=>∃(i:Nat) (sl':List Int),v = .int .i64 i/\i<=xs.length/\Hid (EffW eb mb 1000000 sl' dd hd wr)/\Hid (∀z∈sl',Sml z)/\Hid (∀z,z∈sl'↔z∈sl\/z∈opU (xs.take i))/\Hid (w.grownBy wr (some mb))) (fun v _=>xs.length - (intOf v).toNat)
 case atStart=>exact ⟨0,sl,rfl,by omega,HE,HSM,aH (fun z=>by simp [opU]),aH (World.grownBy.refl _ _)⟩
 case round=>
  obtain ⟨i,sl',rfl,hi,HF,HS3,HM,HG⟩:=hrel;by_cases hlt:i<xs.length
  case neg=>
   have hie:i=xs.length:=by omega
   subst hie;go_wp2_with fail
   go_end0
   exact ⟨rfl,sl',HF.out,fun z=>by rw [HM.out z,cB],HS3.out,HG.out⟩
  case pos=>
  obtain ⟨ob,oo,hOA,hob2,ho0⟩:=HO.out.sl.at_ hlt;obtain ⟨PA,pc,p0,p1,p2,p3,-⟩:=xCO ho0;have q0:=dS p0 HE.out.own HG.out;have q1:=dS p1 HE.out.own HG.out;have q2:=dS p2 HE.out.own HG.out;have q3:=dS p3 HE.out.own HG.out;have HT:=aH (zH (bF hlt));have HXI:=aH (fun (h:xs[i].kind=0\/xs[i].kind=1)=>HX.out xs[i].place.loc (xCP (m:=i+1) (by rw [HT.out];unfold ifU;rw [bD h];simp)));rw [hOA];clear p0 p1 p2 p3 ho0;generalize xs[i].kind=kd at *;generalize xs[i].place.loc=lc at *;generalize xs[i].n=on at *;generalize xs[i].place.proj.length=pn at *;by_cases hk:kd=0\/kd=1
  ·have HKY:=aH (HXI.out hk)
   have HT2:Hid (∀z,z∈lc :: sl'↔z∈sl\/z∈opU (xs.take (i+1))):=aH (fun z=>by
    rw [HT.out];unfold ifU;rw [bD hk,cM,HM.out z,cL,bU];constructor
    ·rintro (h | h | h)
     ·exact .inr (.inr h)
     ·exact .inl h
     ·exact .inr (.inl h)
    ·rintro (h | h | h)
     ·exact .inr (.inl h)
     ·exact .inr (.inr h)
     ·exact .inl h)
   rcases hk with rfl | rfl
   ·have e0:=HF.out.c0;go_wp2_with fail
    obtain ⟨W5,hW5,l5,HF5,HG5⟩:∃W5,W5=wr.alloc (.cells #[.int .i64 0,.int .i64 lc,.slice PA pn pc,.int .i64 on] 121)/\(W5.cell? ⟨wr.heap.size,1,none⟩=some (.int .i64 lc))/\Hid (EffW eb mb 1000000 sl' dd hd W5)/\Hid (w.grownBy W5 (some mb)):=⟨_,rfl,cT wr [.int .i64 0,.int .i64 lc,.slice PA pn pc,.int .i64 on] 121 1 _ rfl,aH (HF.out.keep  ((aZ _ _).alloc (bA _) _)),aH (HG.out.trans (gV ((aZ _ _).alloc (bA _) _)))⟩;rw [<- hW5];have e5:=HF5.out.c0;clear hW5;go_still_tail 7,(by kernel_rfl)
    change wpList _ _ _ _ _ W5.drew;go_wp2_with (at_mapUpdate;refine dW _ rfl _ _ _ rfl mb 1000000 sl' rfl HF5.out.drew.own (by unfold maxLen;omega) lc rfl rfl (eV HKY.out) ?_;intro w7 ho7 hg7)
    have HS7:Hid (∀z∈lc :: sl',Sml z):=aH (fun z hz=>(List.mem_cons.1 hz).elim (fun e=>e ▸ HKY.out) (HS3.out z));have HF7:=aH (HF5.out.drew.put hg7 (ho7.tight HS7.out));go_roundw
    case rel=>exact ⟨i+1,lc :: sl',by go_num,by omega,HF7,HS7,HT2,aH ((mQ HG5.out).trans hg7)⟩
    case measure=>simp [intOf];omega
   ·have e0:=HF.out.c0;go_wp2_with fail
    obtain ⟨W5,hW5,l5,HF5,HG5⟩:∃W5,W5=wr.alloc (.cells #[.int .i64 1,.int .i64 lc,.slice PA pn pc,.int .i64 on] 121)/\(W5.cell? ⟨wr.heap.size,1,none⟩=some (.int .i64 lc))/\Hid (EffW eb mb 1000000 sl' dd hd W5)/\Hid (w.grownBy W5 (some mb)):=⟨_,rfl,cT wr [.int .i64 1,.int .i64 lc,.slice PA pn pc,.int .i64 on] 121 1 _ rfl,aH (HF.out.keep  ((aZ _ _).alloc (bA _) _)),aH (HG.out.trans (gV ((aZ _ _).alloc (bA _) _)))⟩;rw [<- hW5];have e5:=HF5.out.c0;clear hW5;go_still_tail 7,(by kernel_rfl)
    change wpList _ _ _ _ _ W5.drew;go_wp2_with (at_mapUpdate;refine dW _ rfl _ _ _ rfl mb 1000000 sl' rfl HF5.out.drew.own (by unfold maxLen;omega) lc rfl rfl (eV HKY.out) ?_;intro w7 ho7 hg7)
    have HS7:Hid (∀z∈lc :: sl',Sml z):=aH (fun z hz=>(List.mem_cons.1 hz).elim (fun e=>e ▸ HKY.out) (HS3.out z));have HF7:=aH (HF5.out.drew.put hg7 (ho7.tight HS7.out));go_roundw
    case rel=>exact ⟨i+1,lc :: sl',by go_num,by omega,HF7,HS7,HT2,aH ((mQ HG5.out).trans hg7)⟩
    case measure=>simp [intOf];omega
  ·have HT2:Hid (∀z,z∈sl'↔z∈sl\/z∈opU (xs.take (i+1))):=aH (fun z=>by rw [HT.out];unfold ifU;rw [bB hk,List.append_nil];exact HM.out z);have hk0:(kd == 0)=false:=by simp;omega
   have hk1:(kd == 1)=false:=by simp;omega
   go_wp2_with fail
   have hb:Below wr.heap.size wr (wr.alloc (.cells #[.int .i64 kd,.int .i64 lc,.slice PA pn pc,.int .i64 on] 121)):=(aZ _ _).alloc (bA _) _;go_roundw
   case rel=>exact ⟨i+1,sl',by go_num,by omega,aH (HF.out.keep hb),HS3,HT2,aH (HG.out.trans (gV hb))⟩
   case measure=>simp [intOf];omega
def WrP (pl:Int) (pn N eb mb:Nat) (sl:List Int) (dd:Int) (hd:Bool) (w w':World):Prop:=
 ∃sl' d' hd',EffW eb mb 1000000 sl' d' hd' w'/\(∀z∈sl',Sml z)/\(if 0<pn then (∀z,z∈sl'↔z=pl\/z∈sl)/\d'=dd/\hd'=hd else sl'=sl/\d'=pl/\hd'=true)/\Below N w w'
theorem gG (pl:Int) (PA:Option Addr) (pn pc:Nat) (N eb mb:Nat) (sl:List Int) (dd:Int) (hd:Bool) (w:World) (hE:EffW eb mb 1000000 sl dd hd w) (hs:∀z∈sl,Sml z) (hN:N<=eb/\N<=mb) (hx:0<pn->0<=pl/\pl<((1000000:Nat):Int)):
 Calls Tryz.prog 191 #[.pointer (some ⟨eb,0,none⟩),.agg #[.int .i64 pl,.slice PA pn pc]] w fun e' w'=>e' = .returned undef/\WrP pl pn N eb mb sl dd hd w w':=by
 have hNs:N<=w.heap.size:=by have:=hE.lt;omega
 have hb:Below w.heap.size w (w.alloc (.cells #[.int .i64 pl,.slice PA pn pc] 36)):=(aZ _ _).alloc (bA _) _;have HB:=aH hb;have l0:=cT w [.int .i64 pl,.slice PA pn pc] 36 0 _ rfl;have l1:=cT w [.int .i64 pl,.slice PA pn pc] 36 1 _ rfl;have HE:=aH (hE.keep hb);have heb:=hE.lt;have HE0:=aH hE;have HSM:=aH hs;clear hE hb hs;by_cases hp:0<pn
 ·have hp2:0<(pn:Int):=by omega
  have HK:=aH (hx hp);have e0:=HE.out.c0;go_enter Tryz.func191,Tryz.ntmps191
  go_wp2_with fail
  obtain ⟨W5,hW5,HE5,HB5⟩:∃W5,W5=w.alloc (.cells #[.int .i64 pl,.slice PA pn pc] 36)/\Hid (EffW eb mb 1000000 sl dd hd W5)/\Hid (Below w.heap.size w W5):=⟨_,rfl,HE,HB⟩;rw [<- hW5] at l0 l1 e0 ⊢;clear hW5 HE HB;go_still_tail 6,(by kernel_rfl)
  change wpList _ _ _ _ _ W5.drew;go_wp2_with (at_mapUpdate;refine dW _ rfl _ _ _ rfl mb 1000000 sl rfl HE5.out.drew.own (by unfold maxLen;omega) pl rfl rfl (eV HK.out) ?_;intro w7 ho7 hg7)
  go_end0
  have HS7:∀z∈pl :: sl,Sml z:=fun z hz=>(List.mem_cons.1 hz).elim (fun e=>e ▸ HK.out) (HSM.out z)
  exact ⟨rfl,pl :: sl,dd,hd,HE5.out.drew.put hg7 (ho7.tight HS7),HS7,by rw [bD hp];exact ⟨fun z=>cM,rfl,rfl⟩,((HB5.out.mono hNs).drew).grown hg7 (cA hNs HB5.out.drew.size) (fun g hg=>by injection hg with hg;omega)⟩
 ·have hp0:pn=0:=by omega
  subst hp0;have f1:=HE0.out.frozen 1;have f2:=HE0.out.frozen 2;have e1:=HE0.out.c1;have e2:=HE0.out.c2;clear hx;go_enter Tryz.func191,Tryz.ntmps191
  go_wp2_with fail
  go_end0
  exact ⟨rfl,sl,pl,true,(HE0.out.def_ pl).keep ((aZ _ _).alloc (bA _) _),HSM.out,by rw [bB (by omega)];exact ⟨rfl,rfl,rfl⟩,(((aZ N w).setCell hN.1 _).setCell hN.1 _).alloc (by simp;omega) _⟩
end
section
open Go Go.RowKit Go.Maps
theorem OwnI.store2 {w:World} {b n:Nat} {sl:List Int} (h:OwnI w b n sl) (hn:n<maxLen) {x:Int} (hkey:keyOf Tryz.prog 3 (.int .i64 x)=some (.int .i64 x)):
 ∃w',(Instr.mapUpdate 129 (.map (some b)) (.int .i64 x) (.bool true)).run Tryz.prog w = .ok () w'/\OwnI w' b (n+1) (x :: sl)/\w.grownBy w' (some b):=by
 obtain ⟨D,h1,h2,h3⟩:=h;obtain ⟨w',hrun,g1,g2⟩:=h1.update law3 Tryz.underlying129 hn hkey (fS Tryz.underlying4 true);have hk:WideAt.IsKeyLit (Lit.int .i64 x):=trivial;refine ⟨w',hrun,⟨_,g1,fun kl=>?_,fun kl=>?_⟩,g2⟩
 ·by_cases e:kl=Lit.int .i64 x
  ·subst e;rw [atKey_put_same h1.isMap hk,fI]
  ·rw [atKey_put_other e,fW _ _ _ e,h2]
 ·by_cases e:kl=Lit.int .i64 x
  ·subst e;rw [has_put_same h1.isMap hk,fI]
  ·rw [has_put_other e,fW _ _ _ e,h3]
theorem fB (w:World) {ops:Array Oper} {rest:List Oper} {o:Oper} {a:Act} {Q:Exit->Act->World->Prop}
 (hg:o.guard=none) (m x v:Operand) (hop:o.op=Op.mapUpdate 129 m x v) (b n:Nat) (sl:List Int)
 (hm:a.eval m = .map (some b)) (hown:OwnI w b n sl) (hn:n<maxLen) (key:Int) (hx:a.eval x = .int .i64 key) (hv:a.eval v = .bool true) (hkey:keyOf Tryz.prog 3 (.int .i64 key)=some (.int .i64 key))
 (hK:∀w',OwnI w' b (n+1) (key :: sl)->w.grownBy w' (some b)->wpList Tryz.prog ops Q rest (a.put o.dst undef) w'):
 wpList Tryz.prog ops Q (o :: rest) a w:=by
 refine wpList_plain hg fun K' hK'=>?_
 obtain ⟨w',hrun,r1,r2⟩:=hown.store2 hn hkey;unfold Oper.wp;simp [execOp,hop,hm,hx,hv,hrun,Result.andThen];exact hK' _ _ (hK w' r1 r2)
theorem mB (w:World) {ops:Array Oper} {rest:List Oper} {o:Oper} {a:Act} {Q:Exit->Act->World->Prop} (hg:o.guard=none) (m:Operand) (hop:o.op=Op.range 129 m) (b n:Nat) (sl:List Int)
 (hm:a.eval m = .map (some b)) (hown:OwnI w b n sl)
 (hK:∀w' cnt,RngI w' b w.heap.size n sl (fun x=>decide (x∈sl)) cnt->w.grownBy w' none->w'.heap.size=w.heap.size+1->wpList Tryz.prog ops Q rest (a.put o.dst (.pointer (some ⟨w.heap.size,0,none⟩))) w'):
 wpList Tryz.prog ops Q (o :: rest) a w:=by
 obtain ⟨D,h1,h2,h3⟩:=hown;refine wpList_range_own w hg m 129 hop 3 4 law3 Tryz.underlying129 _ b n D hm h1 (fun w' g1 g2 g3=>hK w' _ ⟨D,_,g1,h3,fun x=>by rw [h3];rfl,fun kl hkl=>?_⟩ g2 g3);rw [h3] at hkl;unfold i64F at hkl;split at hkl
 ·exact ⟨_,rfl⟩
 ·cases hkl
theorem vB (t:Ty) (A:Option Addr) (c:Nat) (w:World) (hs:Slc 1 RInt w A c t.flds):
 Calls Tryz.prog 162 #[tyAgg t A c] w fun e' w'=>∃B d,e' = .returned (.slice B (prtT t).length d)/\Slc 1 RInt w' B d (prtT t)/\Below w.heap.size w w':=by
 obtain ⟨kd,mu,rg,el,fl⟩:=t;unfold tyAgg prtT;simp only at *;have hb:=alF w (.cells #[.int .i64 kd,.bool mu,.int .i64 rg,.int .i64 el,.slice A fl.length c] 104);have HS:=aH hs;have HB:=aH hb;clear hs hb;by_cases hk:kd=3
 ·have HO:=aH (fun (W:World)=>gD W el 3 W.heap.size rfl);subst hk;rw [bD rfl];go_enter Tryz.func162,Tryz.ntmps162
  go_wp2_with fail
  go_ret;exact ⟨_,1,rfl,by have:=HO.out (w.alloc (.cells #[.int .i64 3,.bool mu,.int .i64 rg,.int .i64 el,.slice A fl.length c] 104));simpa using this,aJ⟩
 ·have hb3:(kd == 3)=false:=by simp [hk]
  rw [bB hk];clear hk;go_enter Tryz.func162,Tryz.ntmps162
  go_wp2_with fail
  go_ret;exact ⟨A,c,rfl,HS.out.keep RInt.keeps HB.out,HB.out⟩
def CopE.F2 (E:CopE):Value:= .func (.func 161) #[] #[.pointer (some ⟨E.ps,0,none⟩),.pointer (some ⟨E.pl,0,none⟩),.pointer (some ⟨E.pc,0,none⟩)]
structure ViS (E:CopE) (n:Nat) (W:World) (sl:List Int):Prop where
 low:Below E.w0.heap.size E.w0 W
 l:W.cell? ⟨E.pl,0,none⟩=some (.slice E.A n E.c)
 s:W.cell? ⟨E.ps,0,none⟩=some (.map (some E.M))
 c:W.cell? ⟨E.pc,0,none⟩=some E.F2
 own:OwnI W E.M 1000000 sl
 nd:sl.Nodup
 rng:∀x∈sl,0<=x/\x<(n:Int)
theorem ViS.keep {E:CopE} {n:Nat} {W W':World} {sl:List Int} (h:ViS E n W sl) (hb:Below W.heap.size W W'):ViS E n W' sl:=
 ⟨h.low.trans (hb.mono h.low.size),cQ hb h.l,cQ hb h.s,cQ hb h.c,h.own.below hb,h.nd,h.rng⟩
theorem ViS.put {E:CopE} {n:Nat} {W W':World} {sl:List Int} (h:ViS E n W sl) (hM:E.w0.heap.size<=E.M) (hn:n<=65535) {i:Int} (hi:i∉sl) (hr:0<=i/\i<(n:Int)) (ho:OwnI W' E.M 1000001 (i :: sl)) (hg:W.grownBy W' (some E.M)):ViS E n W' (i :: sl)/\Kc W W':=by
 obtain ⟨D,⟨es,clock,h1,_⟩,_⟩:=h.own;have hk:Kc W W':=Kc.of_grown (fun cs e z g=>by rw [h1] at g;cases g) hg;have hrg:∀x∈i :: sl,0<=x/\x<(n:Int):=fun x hx=>(List.mem_cons.1 hx).elim (fun e=>e ▸ hr) (h.rng x)
 exact ⟨⟨h.low.trans (dN hg hM h.low.size),hk.cell _ _ h.l,hk.cell _ _ h.s,hk.cell _ _ h.c,ho.tight (m:=1000000) (fun x hx=>by have:=hrg x hx;omega),List.nodup_cons.2 ⟨hi,h.nd⟩,hrg⟩,hk⟩
def CopE.VRec (E:CopE) (ts:List Ty) (m:Nat):Prop:=∀i:Nat,i<m->i<ts.length->∀W sl,ViS E ts.length W sl->
 Calls Tryz.prog 161 #[.int .i64 i,.pointer (some ⟨E.ps,0,none⟩),.pointer (some ⟨E.pl,0,none⟩),.pointer (some ⟨E.pc,0,none⟩)] W fun e' W'=>e' = .returned undef/\∃sl',Vi ts i sl sl'/\ViS E ts.length W' sl'/\Kc W W'
theorem xEH {ts:List Ty} (h:TyOk ts) {i:Nat} (hi:i<ts.length):∀k∈prtT ts[i],0<=k/\k<(i:Int):=fun k hk=>by
 obtain ⟨h1,h2⟩:=h i hi;unfold prtT at hk;split at hk
 ·rename_i e;rw [bU] at hk;subst hk;exact ⟨(h1 e).1,(h1 e).2.1⟩
 ·exact h2 k hk
theorem kM (E:CopE) (ts:List Ty) (HE:E.Ok ts):∀m:Nat,E.VRec ts m
 | 0=>fun _ h=>absurd h (by omega)
 | m+1=>fun i him hi W sl h=>by
   by_cases him2:i<m
   ·exact kM E ts HE m i him2 hi W sl h
   obtain rfl:m=i:=by omega
   have HREC:=aH (kM E ts HE m);have hn:=HE.n;have x1:=h.l;have x2:=h.s;have keyi:=eV (z:=(m:Int)) (by omega);have hown:=h.own;have HST:=aH h;have hle:=HE.ty.le;have hbig:=HE.ty.big;have HM:=aH HE.M;by_cases hin:(m:Int)∈sl
   ·have HFB:Hid (i64F (inF sl) (.int .i64 (m:Int))=true):=aH (by simp [i64F,inF,hin]);have HVI:=aH (Vi.known ts hin);clear hin HREC HE h;go_enter Tryz.func161,Tryz.ntmps161
    go_wp2_with (at_lookup;refine dB _ rfl _ _ 129 rfl 3 4 law3 Tryz.underlying129 Tryz.underlying4 (eF _) _ _ _ rfl hown.toB _ _ rfl keyi ?_;rw [HFB.out])
    first | (simp only [Exit.inBlock,Exit.then];refine bodyPost_ret (results_none rfl _ _ _) rfl ?_) | refine bodyPost_ret (results_none rfl _ _ _) rfl ?_
    exact ⟨rfl,sl,HVI.out,HST.out,Kc.refl _⟩
   ·have HFB:Hid (i64F (inF sl) (.int .i64 (m:Int))=false):=aH (by simp [i64F,inF,hin]);have HNI:=aH hin;obtain ⟨bb,oo,hA,hbb,hx⟩:=HE.ty.sl.at_ hi;have HPL:=aH (xEH HE.tyok hi);have htg:ts[((m:Nat):Int).toNat]?=some ts[m]:=(by simp [hi]);have HTG:=aH htg;obtain ⟨t,ht⟩:∃t,ts[m]=t:=⟨_,rfl⟩;rw [ht] at hx HPL HTG;obtain ⟨r1,r2,r3,r4,A2,c2,r5,r6,r7,r8⟩:=hx;have y1:=cQ h.low r1;have y2:=cQ h.low r2;have y3:=cQ h.low r3;have y4:=cQ h.low r4;have y5:=cQ h.low r5;have HFL:Hid (Slc 1 RInt E.w0 A2 c2 t.flds):=aH ⟨r8,r6,r7⟩;have hbl:=bP hbb h.low.size;clear hin HE h ht htg r1 r2 r3 r4 r5 r8;rw [hA] at x1;go_enter Tryz.func161,Tryz.ntmps161
    go_wp2_with (first
     | (at_lookup;refine dB _ rfl _ _ 129 rfl 3 4 law3 Tryz.underlying129 Tryz.underlying4 (eF _) _ _ _ rfl hown.toB _ _ rfl keyi ?_;rw [HFB.out])
     | (at_mapUpdate;refine fB _ rfl _ _ _ rfl E.M 1000000 sl rfl hown (by unfold maxLen;omega) (m:Int) rfl rfl keyi ?_;intro w7 ho7 hg7;obtain ⟨hs7,hk7⟩:=HST.out.put HM.out hn HNI.out ⟨by omega,by omega⟩ ho7 hg7;have HS7:=aH hs7;have HK7:=aH hk7;have z1:=hk7.cell _ _ x1;have z2:=hk7.cell _ _ y1;have z3:=hk7.cell _ _ y2;have z4:=hk7.cell _ _ y3;have z5:=hk7.cell _ _ y4;have z6:=hk7.cell _ _ y5;clear ho7 hg7 hs7 hk7 x1 x2 y1 y2 y3 y4 y5)
     | (go_at_call 162;refine (vB t A2 c2 w7 (HFL.out.keep RInt.keeps HS7.out.low)).mono ?_;rintro e' w8 ⟨PA,pc,rfl,hp8,hb8⟩;have HP8:=aH hp8;have n8:=hp8.le;have n9:=hp8.big;have HS8:=aH (HS7.out.keep hb8);have HK8:=aH (HK7.out.trans (.of_below hb8));clear hp8 hb8 z1 z2 z3 z4 z5 z6))
    go_loopw [6,18] (fun _ i wr=>∃(k:Nat) (sl':List Int),i = .int .i64 k/\k<=(prtT t).length/\Hid (Vk ts (m:Int) (prtT t) k sl sl')/\Hid (ViS E ts.length wr sl')/\Hid (Kc w8 wr)) (fun _ i _=>(prtT t).length - (intOf i).toNat)
    case atStart=>exact ⟨0,(m:Int) :: sl,rfl,by omega,aH (Vk.start HNI.out),HS8,aH (Kc.refl _)⟩
    case round=>
     obtain ⟨k,sl',rfl,hk,HV,HS,HK⟩:=hrel;by_cases hlt:k<(prtT t).length
     case pos=>
      obtain ⟨pb,po,rfl,hpb,hx0⟩:=(HP8.out.keepC RInt.keepsC HK.out).sl.at_ hlt;have x0:wr.cell? ⟨pb,po+k,none⟩=some (.int .i64 (prtT t)[k]):=(by simpa [RInt] using hx0);have hki:=bF hlt;have hpl:=HPL.out _ (bO hlt);have HKI:=aH hki;clear hx0 hki;generalize (prtT t)[k]=y0 at *;obtain ⟨y,rfl⟩:=bI hpl.1;have HC:=aH (HREC.out y (by omega) (by omega) wr sl' HS.out);have xc:=HS.out.c;unfold CopE.F2 at xc;go_wp2_with (go_at_call 161;refine HC.out.mono ?_;rintro e' w9 ⟨rfl,sl9,hv9,hs9,hk9⟩;have HV9:=aH hv9;have HS9:=aH hs9;have HK9:=aH (HK.out.trans hk9);clear hv9 hs9 hk9 x0 xc)
      have HVK:=aH (HV.out.step (by omega) HTG.out HKI.out HV9.out);go_roundw
      case rel=>exact ⟨k+1,sl9,by go_num,by omega,HVK,HS9,HK9⟩
      case measure=>simp [intOf];omega
     case neg=>
      have HVC:=aH (HV.out.close HTG.out (by omega));go_wp2_with fail
      go_end0
      exact ⟨rfl,sl',HVC.out,HS.out,HK8.out.trans HK.out⟩
def EfR (U:List Int) (D:Option Int) (w:World) (e':Ending) (w':World):Prop:=
 ∃mb d hd sl,e' = .returned (.agg #[.map (some mb),.int .i64 d,.bool hd])/\w.heap.size<=mb/\OwnI w' mb 1000000 sl/\(∀z,z∈sl↔z∈U)/\(D=if hd then some d else none)/\(hd=false->d=0)/\Below w.heap.size w w'
structure EfS (w:World) (L:List Value) (W:World):Prop where
 eff:EffW (w.heap.size+1+1+1) (w.heap.size+1+1) 1000000 [] 0 false W
 res:W.heap[w.heap.size+1]?=some (.cells #[.map none,.int .i64 0,.bool false] 200 (0,0))
 box:∀i v,L[i]?=some v->W.cell? ⟨w.heap.size,i,none⟩=some v
 low:Below w.heap.size w W
 size:W.heap.size=w.heap.size+1+1+1+1
theorem xAI (w:World) (L:List Value) (T:TypeId):EfS w L ((((w.alloc (.cells L.toArray T)).alloc (.cells #[.map none,.int .i64 0,.bool false] 200)).alloc (.map #[] 0)).alloc (.cells #[.map (some (w.heap.size+1+1)),.int .i64 0,.bool false] 200)):=by
 have hb1:Below w.heap.size w (w.alloc (.cells L.toArray T)):=(aZ _ _).alloc (bA _) _;have hx1:=cT w L T;have hs1:(w.alloc (.cells L.toArray T)).heap.size=w.heap.size+1:=by simp
 generalize w.alloc (.cells L.toArray T)=w1 at *;have hb2:Below w1.heap.size w1 (w1.alloc (.cells #[.map none,.int .i64 0,.bool false] 200)):=(aZ _ _).alloc (bA _) _;have hx2:=heap_alloc_new w1 (.cells #[.map none,.int .i64 0,.bool false] 200);have hs2:(w1.alloc (.cells #[.map none,.int .i64 0,.bool false] 200)).heap.size=w1.heap.size+1:=by simp
 generalize w1.alloc (.cells #[.map none,.int .i64 0,.bool false] 200)=w2 at *;have hb3:Below w2.heap.size w2 (w2.alloc (.map #[] 0)):=(aZ _ _).alloc (bA _) _;have hx3:=OwnI.made w2;have hs3:(w2.alloc (.map #[] 0)).heap.size=w2.heap.size+1:=by simp
 generalize w2.alloc (.map #[] 0)=w3 at *;have hb4:Below w3.heap.size w3 (w3.alloc (.cells #[.map (some (w.heap.size+1+1)),.int .i64 0,.bool false] 200)):=(aZ _ _).alloc (bA _) _;have hx4:=heap_alloc_new w3 (.cells #[.map (some (w.heap.size+1+1)),.int .i64 0,.bool false] 200);have hs4:(w3.alloc (.cells #[.map (some (w.heap.size+1+1)),.int .i64 0,.bool false] 200)).heap.size=w3.heap.size+1:=by simp
 generalize w3.alloc (.cells #[.map (some (w.heap.size+1+1)),.int .i64 0,.bool false] 200)=w4 at *;have e3:w3.heap.size=w.heap.size+1+1+1:=by omega
 have e2:w2.heap.size=w.heap.size+1+1:=by omega
 refine ⟨⟨by rw [<- e3];exact hx4,(hx3.mono (Nat.zero_le _)).below hb4 |> fun h=>by rw [<- e2];exact h⟩,?_,fun i v hi=>cQ hb4 (cQ hb3 (cQ hb2 (hx1 i v hi))),((hb1.trans (hb2.mono (by omega))).trans (hb3.mono (by omega))).trans (hb4.mono (by omega)),by omega⟩;rw [<- hs1] at *;exact (hb4.block _ (by omega)).trans ((hb3.block _ (by omega)).trans hx2)
structure EfT (w:World) (Ls:List Value) (W:World):Prop where
 eff:EffW (w.heap.size+1+1+1) (w.heap.size+1+1) 1000000 [] 0 false W
 res:W.heap[w.heap.size+1]?=some (.cells #[.map none,.int .i64 0,.bool false] 200 (0,0))
 stm:∀i v,Ls[i]?=some v->W.cell? ⟨w.heap.size+1+1+1+1,i,none⟩=some v
 low:Below w.heap.size w W
 size:W.heap.size=w.heap.size+1+1+1+1+1
theorem qE {w W:World} {L:List Value} (h:EfS w L W) (Ls:List Value) (T:TypeId):EfT w Ls (W.alloc (.cells Ls.toArray T)):=by
 have hb:Below W.heap.size W (W.alloc (.cells Ls.toArray T)):=(aZ _ _).alloc (bA _) _;have hx:=cT W Ls T;have hs:(W.alloc (.cells Ls.toArray T)).heap.size=W.heap.size+1:=by simp
 have hz:=h.size;rw [hz] at hx;exact ⟨h.eff.keep hb,(hb.block _ (by omega)).trans h.res,hx,h.low.trans (hb.mono (by omega)),by omega⟩
theorem xAJ (w:World) (o1 o4 o5:Obj) (cs:Array Value) (T:TypeId):let W:=((((w.alloc o1).alloc (.cells cs T)).alloc (.map #[] 0)).alloc o4).alloc o5
 W.heap[w.heap.size+1]?=some (.cells cs T (0,0))/\OwnI W (w.heap.size+1+1) 1000000 []/\Below w.heap.size w W:=by
 intro W;have e:W=((((w.alloc o1).alloc (.cells cs T)).alloc (.map #[] 0)).alloc o4).alloc o5:=rfl;clear_value W
 have hb1:Below w.heap.size w (w.alloc o1):=(aZ _ _).alloc (bA _) _;have hs1:(w.alloc o1).heap.size=w.heap.size+1:=by simp
 generalize w.alloc o1=w1 at *;have hb2:Below w1.heap.size w1 (w1.alloc (.cells cs T)):=(aZ _ _).alloc (bA _) _;have hx2:=heap_alloc_new w1 (.cells cs T);have hs2:(w1.alloc (.cells cs T)).heap.size=w1.heap.size+1:=by simp
 generalize w1.alloc (.cells cs T)=w2 at *;have hb3:Below w2.heap.size w2 (w2.alloc (.map #[] 0)):=(aZ _ _).alloc (bA _) _;have hx3:=OwnI.made w2;have hs3:(w2.alloc (.map #[] 0)).heap.size=w2.heap.size+1:=by simp
 generalize w2.alloc (.map #[] 0)=w3 at *;have hb4:Below w3.heap.size w3 (w3.alloc o4):=(aZ _ _).alloc (bA _) _;have hs4:(w3.alloc o4).heap.size=w3.heap.size+1:=by simp
 generalize w3.alloc o4=w4 at *;have hb5:Below w4.heap.size w4 (w4.alloc o5):=(aZ _ _).alloc (bA _) _;rw [<- e] at hb5;have e2:w2.heap.size=w.heap.size+1+1:=by omega
 refine ⟨?_,?_,(((hb1.trans (hb2.mono (by omega))).trans (hb3.mono (by omega))).trans (hb4.mono (by omega))).trans (hb5.mono (by omega))⟩
 ·rw [<- hs1];exact (hb5.block _ (by omega)).trans ((hb4.block _ (by omega)).trans ((hb3.block _ (by omega)).trans hx2))
 ·rw [<- e2];exact ((hx3.mono (Nat.zero_le _)).below hb4).below hb5
theorem mT {W:World} {n0 eb mb:Nat} {sl:List Int} {d:Int} {hd:Bool} (h:EffW eb mb 1000000 sl d hd W) (hr:W.heap[n0+1]?=some (.cells #[.map none,.int .i64 0,.bool false] 200 (0,0))) (hm:mb≠n0+1) {W9:World}
 (hW:((W.setCell ⟨n0+1,0,none⟩ (.map (some mb))).setCell ⟨n0+1,1,none⟩ (.int .i64 d)).setCell ⟨n0+1,2,none⟩ (.bool hd)=W9):
 W9.cell? ⟨n0+1,0,none⟩=some (.map (some mb))/\W9.cell? ⟨n0+1,1,none⟩=some (.int .i64 d)/\W9.cell? ⟨n0+1,2,none⟩=some (.bool hd)/\OwnI W9 mb 1000000 sl/\∀w,Below n0 w W->Below n0 w W9:=by
 have hb:W9.heap[n0+1]?=some (.cells #[.map (some mb),.int .i64 d,.bool hd] 200 (0,0)):=by
  rw [<- hW];simp [World.setCell,Array.getElem?_modify,hr]
 refine ⟨by simp [World.cell?,hb],by simp [World.cell?,hb],by simp [World.cell?,hb],h.own.block ?_,fun w hl=>?_⟩
 ·rw [<- hW];exact (bJ _ ⟨n0+1,2,none⟩ _ _ hm).trans ((bJ _ ⟨n0+1,1,none⟩ _ _ hm).trans (bJ _ ⟨n0+1,0,none⟩ _ _ hm))
 ·rw [<- hW];exact ((hl.setCell (by simp) _).setCell (by simp) _).setCell (by simp) _
theorem xDH (x:Blk) (A1 A2 A3 A4:Option Addr) (c1 c2 c3 c4 k:Nat) (w:World) (hs1:Slc 11 RSt w A1 c1 x.stmts) (hs3:Slc 4 ROp w A3 c3 x.term.args) (hu:∀z∈usB x k,Sml z) (hk:k<=x.stmts.length):
 Calls Tryz.prog 158 #[.agg (bkL x A1 c1 A2 c2 A3 c3 A4 c4).toArray,.int .i64 k] w (EfR (usB x k) (dfB x k) w):=by
 have hbl:=hs1.le;have hbg:=hs1.big;have hmm:= @run_makeMap Tryz.prog;have hst:=xAI w (bkL x A1 c1 A2 c2 A3 c3 A4 c4) 116;unfold bkL at *;obtain ⟨W0,hW0⟩:∃W0,((((w.alloc (.cells #[.slice A1 x.stmts.length c1,.int .i64 x.term.kind,.slice A2 x.term.targets.length c2,.slice A3 x.term.args.length c3,.int .i64 x.term.place.loc,.slice A4 x.term.place.proj.length c4,.string x.term.name] 116)).alloc (.cells #[.map none,.int .i64 0,.bool false] 200)).alloc (.map #[] 0)).alloc (.cells #[.map (some (w.heap.size+1+1)),.int .i64 0,.bool false] 200))=W0:=⟨_,rfl⟩;have HS:Hid (EfS w _ W0):=aH (hW0 ▸ hst);have hsz:=HS.out.size;have HW:=aH hW0;clear hst hW0;by_cases hks:k<x.stmts.length
 ·have hks2:(k:Int)<(x.stmts.length:Int):=by omega
  obtain ⟨sb,so,hSA,hsb,hss⟩:=hs1.sl.at_ hks;obtain ⟨A0,c0,A,c,B,d,q0,q1,q2,q3,q4,q5,q6,q7,q8,q9,q10,-,-,hsa⟩:=iM hss;rw [hSA];have HO:=aH hsa;have hol:=hsa.le;have hob:=hsa.big;have hU1:usB x k=usS x.stmts[k]:=by unfold usB;rw [bF hks]
  have hD1:dfB x k=dfS x.stmts[k]:=by unfold dfB;rw [bF hks]
  have HU:Hid (usB x k=if x.stmts[k].kind=0 then opU x.stmts[k].rv.args ++ ifU (x.stmts[k].rv.kind=1) x.stmts[k].rv.place.loc ++ ifU (0<x.stmts[k].place.proj.length) x.stmts[k].place.loc else []):=aH (by rw [hU1];rfl);have HD:Hid (dfB x k=if x.stmts[k].kind=0 then (if x.stmts[k].place.proj.length=0 then some x.stmts[k].place.loc else none) else if x.stmts[k].kind=1 then some x.stmts[k].loc else none):=aH (by rw [hD1];rfl);generalize usB x k=U at *;generalize dfB x k=D at *;rw [hSA] at HS HW;have r0:=cQ HS.out.low q0;have r1:=cQ HS.out.low q1;have r2:=cQ HS.out.low q2;have r3:=cQ HS.out.low q3;have r4:=cQ HS.out.low q4;have r5:=cQ HS.out.low q5;have r6:=cQ HS.out.low q6;have r7:=cQ HS.out.low q7;have r8:=cQ HS.out.low q8;have r9:=cQ HS.out.low q9;have r10:=cQ HS.out.low q10;rw [<- HW.out] at r0 r1 r2 r3 r4 r5 r6 r7 r8 r9 r10;clear hs1 hs3 hU1 hD1 hss hsa q0 q1 q2 q3 q4 q5 q6 q7 q8 q9 q10;generalize x.stmts[k]=s at *;generalize s.kind=kd at *;generalize s.place.loc=pl at *;generalize s.place.proj.length=n at *;generalize s.rv.kind=rk at *;generalize s.rv.op=op at *;generalize s.rv.reg=rg at *;generalize s.rv.mu=mu at *;generalize s.rv.place.loc=rl at *;generalize s.rv.place.proj.length=rn at *;generalize s.rv.args=xs at *;generalize s.loc=lo at *;have HUU:=aH hu;clear hu;by_cases h0:kd=0
  ·subst h0;have HU1:Hid (U=opU xs ++ ifU (rk=1) rl ++ ifU (0<n) pl):=aH (by rw [HU.out,bD rfl]);have HD2:Hid (D=if n=0 then some pl else none):=aH (by rw [HD.out,bD rfl]);have HX:Hid (∀z∈opU xs,Sml z):=aH (fun z hz=>HUU.out z (by rw [HU1.out];simp [hz]));have HPL:Hid (0<n->Sml pl):=aH (fun hn=>HUU.out pl (by rw [HU1.out,ifU_t hn];simp));clear HU HD;by_cases h1:rk=1
   ·subst h1;have HRL:Hid (Sml rl):=aH (HUU.out rl (by rw [HU1.out,ifU_t rfl];simp));have HU2:Hid (U=opU xs ++ [rl] ++ ifU (0<n) pl):=aH (by rw [HU1.out,ifU_t rfl]);have hts:=qE HS.out [.int .i64 0,.int .i64 pl,.slice A0 n c0,.int .i64 1,.int .i64 op,.int .i64 rg,.bool mu,.int .i64 rl,.slice A rn c,.slice B xs.length d,.int .i64 lo] 111;go_enter Tryz.func158,Tryz.ntmps158
    go_wp2_with fail
    clear r0 r1 r2 r3 r4 r5 r6 r7 r8 r9 r10;rw [HW.out];clear HW;have HT:=aH hts;clear hts;go_wp2_with (first | (go_at_call 191;refine (gG pl A0 n c0 (w.heap.size+1+1) _ _ (rl :: sl6) 0 false _ HE5.out HS5.out ⟨by omega,by omega⟩ HPL.out).mono ?_;rintro e' w7 ⟨rfl,hw7⟩;clear u0 u1 u2 x0 x1 x2 xf;clear z1 z2 z3 z7;unfold WrP at hw7;obtain ⟨sl7,d7,hd7,he7,hs7,hc7,hb7⟩:=hw7;have HE7:=aH he7;have HC7:=aH hc7;have T7:Hid (w7.heap[w.heap.size+1]?=some (.cells #[.map none,.int .i64 0,.bool false] 200 (0,0))):=aH ((hb7.block _ (by omega)).trans T5.out);have HB7:=aH (HB5.out.trans (hb7.mono (by omega)));clear he7 hs7 hc7 hb7;have u0:=HE7.out.c0;have u1:=HE7.out.c1;have u2:=HE7.out.c2;have x0:w7.cell? ⟨w.heap.size+1,0,none⟩=some (.map none):=(by simp [World.cell?,T7.out]);have x1:w7.cell? ⟨w.heap.size+1,1,none⟩=some (.int .i64 0):=(by simp [World.cell?,T7.out]);have x2:w7.cell? ⟨w.heap.size+1,2,none⟩=some (.bool false):=(by simp [World.cell?,T7.out]);have xf:∀i,w7.frozen? ⟨w.heap.size+1,i,none⟩=false:=(fun i=>by simp [World.frozen?,T7.out])) | (go_at_call 190;refine (fY xs B d _ _ [] 0 false _ HT.out.eff (fun z hz=>by cases hz) (HO.out.keep ROp.keeps HT.out.low) HX.out).mono ?_;rintro e' w6 ⟨rfl,sl6,he6,hm6,hs6,hg6⟩;have HE6:=aH he6;have HM6:=aH hm6;have HS6:=aH hs6;have T6:Hid (w6.heap[w.heap.size+1]?=some (.cells #[.map none,.int .i64 0,.bool false] 200 (0,0))):=aH ((hg6.block _ (by have:=HT.out.size;omega) (fun e=>by injection e with e;omega)).trans HT.out.res);have HB6:=aH (HT.out.low.grown hg6 (by have:=HT.out.size;omega) (fun g hg=>by injection hg with hg;omega));have HY6:=aH (fun i v hi=>dS (HT.out.stm i v hi) HT.out.eff.own hg6);have z1:=HY6.out 1 _ rfl;have z2:=HY6.out 2 _ rfl;have z3:=HY6.out 3 _ rfl;have z7:=HY6.out 7 _ rfl;have u0:=HE6.out.c0;have u1:=HE6.out.c1;have u2:=HE6.out.c2;have x0:w6.cell? ⟨w.heap.size+1,0,none⟩=some (.map none):=(by simp [World.cell?,T6.out]);have x1:w6.cell? ⟨w.heap.size+1,1,none⟩=some (.int .i64 0):=(by simp [World.cell?,T6.out]);have x2:w6.cell? ⟨w.heap.size+1,2,none⟩=some (.bool false):=(by simp [World.cell?,T6.out]);have xf:∀i,w6.frozen? ⟨w.heap.size+1,i,none⟩=false:=(fun i=>by simp [World.frozen?,T6.out]);clear he6 hm6 hs6 hg6) | (at_mapUpdate;refine dW _ rfl _ _ _ rfl _ 1000000 sl6 rfl HE6.out.own (by unfold maxLen;omega) rl rfl rfl (eV HRL.out) ?_;intro w5 ho5 hg5;clear u0 u1 u2 x0 x1 x2 xf;clear z1 z2 z3 z7;have HS5:Hid (∀z∈rl :: sl6,Sml z):=aH (fun z hz=>(List.mem_cons.1 hz).elim (fun e=>e ▸ HRL.out) (HS6.out z));have HE5:=aH (HE6.out.put hg5 (ho5.tight HS5.out));have T5:Hid (w5.heap[w.heap.size+1]?=some (.cells #[.map none,.int .i64 0,.bool false] 200 (0,0))):=aH ((hg5.block _ (by have:=HE6.out.lt;omega) (fun e=>by injection e with e;omega)).trans T6.out);have HB5:=aH (HB6.out.grown hg5 HB6.out.size (fun g hg=>by injection hg with hg;omega));have HY5:=aH (fun i v hi=>dS (HY6.out i v hi) HE6.out.own hg5);have z1:=HY5.out 1 _ rfl;have z2:=HY5.out 2 _ rfl;have z3:=HY5.out 3 _ rfl;have z7:=HY5.out 7 _ rfl;have u0:=HE5.out.c0;have u1:=HE5.out.c1;have u2:=HE5.out.c2;have x0:w5.cell? ⟨w.heap.size+1,0,none⟩=some (.map none):=(by simp [World.cell?,T5.out]);have x1:w5.cell? ⟨w.heap.size+1,1,none⟩=some (.int .i64 0):=(by simp [World.cell?,T5.out]);have x2:w5.cell? ⟨w.heap.size+1,2,none⟩=some (.bool false):=(by simp [World.cell?,T5.out]);have xf:∀i,w5.frozen? ⟨w.heap.size+1,i,none⟩=false:=(fun i=>by simp [World.frozen?,T5.out]);clear ho5 hg5))
    have hfin:(∀z,z∈sl7↔z∈U)/\D=(if hd7 then some d7 else none)/\(hd7=false->d7=0):=by
     by_cases hn:0<n
     ·have h:=HC7.out;rw [bD hn] at h;obtain ⟨g1,rfl,rfl⟩:=h;exact ⟨fun z=>by rw [g1 z,HU2.out,ifU_t hn];simp [HM6.out z,or_comm,or_assoc],by rw [HD2.out,bB (by omega)];rfl,fun _=>rfl⟩
     ·have h:=HC7.out;rw [bB hn] at h;obtain ⟨rfl,rfl,rfl⟩:=h;exact ⟨fun z=>by rw [HU2.out,ifU_f hn];simp [HM6.out z,or_comm],by rw [HD2.out,bD (by omega)];rfl,fun h=>by cases h⟩
    have HFI:=aH hfin;clear hfin;generalize hW9:((w7.setCell ⟨w.heap.size+1,0,none⟩ (.map (some (w.heap.size+1+1)))).setCell ⟨w.heap.size+1,1,none⟩ (.int .i64 d7)).setCell ⟨w.heap.size+1,2,none⟩ (.bool hd7)=W9;obtain ⟨v0,v1,v2,O9,B9⟩:=mT HE7.out T7.out (by omega) hW9;have HO9:=aH O9;have HB9:=aH (B9 _ HB7.out);clear hW9 O9 B9;exact bodyPost_ret (v:= .agg #[.map (some (w.heap.size+1+1)),.int .i64 d7,.bool hd7]) (by simp [results,Tryz.results158,go_sem,v0,v1,v2]) rfl ⟨_,d7,hd7,sl7,rfl,by omega,HO9.out,HFI.out.1,HFI.out.2.1,HFI.out.2.2,HB9.out⟩
   ·have hr1:(rk == 1)=false:=by simp [h1]
    have HU2:Hid (U=opU xs ++ ifU (0<n) pl):=aH (by rw [HU1.out,ifU_f h1,List.append_nil]);have hts:=qE HS.out [.int .i64 0,.int .i64 pl,.slice A0 n c0,.int .i64 rk,.int .i64 op,.int .i64 rg,.bool mu,.int .i64 rl,.slice A rn c,.slice B xs.length d,.int .i64 lo] 111;go_enter Tryz.func158,Tryz.ntmps158
    go_wp2_with fail
    clear r0 r1 r2 r3 r4 r5 r6 r7 r8 r9 r10;rw [HW.out];clear HW;have HT:=aH hts;clear hts;go_wp2_with (first | (go_at_call 191;refine (gG pl A0 n c0 (w.heap.size+1+1) _ _ sl6 0 false _ HE6.out HS6.out ⟨by omega,by omega⟩ HPL.out).mono ?_;rintro e' w7 ⟨rfl,hw7⟩;clear u0 u1 u2 x0 x1 x2 xf;clear z1 z2 z3 z7;unfold WrP at hw7;obtain ⟨sl7,d7,hd7,he7,hs7,hc7,hb7⟩:=hw7;have HE7:=aH he7;have HC7:=aH hc7;have T7:Hid (w7.heap[w.heap.size+1]?=some (.cells #[.map none,.int .i64 0,.bool false] 200 (0,0))):=aH ((hb7.block _ (by omega)).trans T6.out);have HB7:=aH (HB6.out.trans (hb7.mono (by omega)));clear he7 hs7 hc7 hb7;have u0:=HE7.out.c0;have u1:=HE7.out.c1;have u2:=HE7.out.c2;have x0:w7.cell? ⟨w.heap.size+1,0,none⟩=some (.map none):=(by simp [World.cell?,T7.out]);have x1:w7.cell? ⟨w.heap.size+1,1,none⟩=some (.int .i64 0):=(by simp [World.cell?,T7.out]);have x2:w7.cell? ⟨w.heap.size+1,2,none⟩=some (.bool false):=(by simp [World.cell?,T7.out]);have xf:∀i,w7.frozen? ⟨w.heap.size+1,i,none⟩=false:=(fun i=>by simp [World.frozen?,T7.out])) | (go_at_call 190;refine (fY xs B d _ _ [] 0 false _ HT.out.eff (fun z hz=>by cases hz) (HO.out.keep ROp.keeps HT.out.low) HX.out).mono ?_;rintro e' w6 ⟨rfl,sl6,he6,hm6,hs6,hg6⟩;have HE6:=aH he6;have HM6:=aH hm6;have HS6:=aH hs6;have T6:Hid (w6.heap[w.heap.size+1]?=some (.cells #[.map none,.int .i64 0,.bool false] 200 (0,0))):=aH ((hg6.block _ (by have:=HT.out.size;omega) (fun e=>by injection e with e;omega)).trans HT.out.res);have HB6:=aH (HT.out.low.grown hg6 (by have:=HT.out.size;omega) (fun g hg=>by injection hg with hg;omega));have HY6:=aH (fun i v hi=>dS (HT.out.stm i v hi) HT.out.eff.own hg6);have z1:=HY6.out 1 _ rfl;have z2:=HY6.out 2 _ rfl;have z3:=HY6.out 3 _ rfl;have z7:=HY6.out 7 _ rfl;have u0:=HE6.out.c0;have u1:=HE6.out.c1;have u2:=HE6.out.c2;have x0:w6.cell? ⟨w.heap.size+1,0,none⟩=some (.map none):=(by simp [World.cell?,T6.out]);have x1:w6.cell? ⟨w.heap.size+1,1,none⟩=some (.int .i64 0):=(by simp [World.cell?,T6.out]);have x2:w6.cell? ⟨w.heap.size+1,2,none⟩=some (.bool false):=(by simp [World.cell?,T6.out]);have xf:∀i,w6.frozen? ⟨w.heap.size+1,i,none⟩=false:=(fun i=>by simp [World.frozen?,T6.out]);clear he6 hm6 hs6 hg6))
    have hfin:(∀z,z∈sl7↔z∈U)/\D=(if hd7 then some d7 else none)/\(hd7=false->d7=0):=by
     by_cases hn:0<n
     ·have h:=HC7.out;rw [bD hn] at h;obtain ⟨g1,rfl,rfl⟩:=h;exact ⟨fun z=>by rw [g1 z,HU2.out,ifU_t hn];simp [HM6.out z,or_comm],by rw [HD2.out,bB (by omega)];rfl,fun _=>rfl⟩
     ·have h:=HC7.out;rw [bB hn] at h;obtain ⟨rfl,rfl,rfl⟩:=h;exact ⟨fun z=>by rw [HU2.out,ifU_f hn];simp [HM6.out z],by rw [HD2.out,bD (by omega)];rfl,fun h=>by cases h⟩
    have HFI:=aH hfin;clear hfin;generalize hW9:((w7.setCell ⟨w.heap.size+1,0,none⟩ (.map (some (w.heap.size+1+1)))).setCell ⟨w.heap.size+1,1,none⟩ (.int .i64 d7)).setCell ⟨w.heap.size+1,2,none⟩ (.bool hd7)=W9;obtain ⟨v0,v1,v2,O9,B9⟩:=mT HE7.out T7.out (by omega) hW9;have HO9:=aH O9;have HB9:=aH (B9 _ HB7.out);clear hW9 O9 B9;exact bodyPost_ret (v:= .agg #[.map (some (w.heap.size+1+1)),.int .i64 d7,.bool hd7]) (by simp [results,Tryz.results158,go_sem,v0,v1,v2]) rfl ⟨_,d7,hd7,sl7,rfl,by omega,HO9.out,HFI.out.1,HFI.out.2.1,HFI.out.2.2,HB9.out⟩
  ·have hk0:(kd == 0)=false:=by simp [h0]
   have HU2:Hid (U=[]):=aH (by rw [HU.out,bB h0]);by_cases h1:kd=1
   ·subst h1;have HD2:Hid (D=some lo):=aH (by rw [HD.out,bB (by omega),bD rfl]);have HPL:Hid (0<0->Sml lo):=aH (fun h=>absurd h (by omega));have hts:=qE HS.out [.int .i64 1,.int .i64 pl,.slice A0 n c0,.int .i64 rk,.int .i64 op,.int .i64 rg,.bool mu,.int .i64 rl,.slice A rn c,.slice B xs.length d,.int .i64 lo] 111;go_enter Tryz.func158,Tryz.ntmps158
    go_wp2_with fail
    clear r0 r1 r2 r3 r4 r5 r6 r7 r8 r9 r10;rw [HW.out];clear HW;have HT:=aH hts;clear hts;obtain ⟨W1,hW1⟩:∃W1,W0.alloc (.cells #[.int .i64 1,.int .i64 pl,.slice A0 n c0,.int .i64 rk,.int .i64 op,.int .i64 rg,.bool mu,.int .i64 rl,.slice A rn c,.slice B xs.length d,.int .i64 lo] 111)=W1:=⟨_,rfl⟩;have HT1:Hid (EfT w [.int .i64 1,.int .i64 pl,.slice A0 n c0,.int .i64 rk,.int .i64 op,.int .i64 rg,.bool mu,.int .i64 rl,.slice A rn c,.slice B xs.length d,.int .i64 lo] W1):=aH (hW1 ▸ HT.out);rw [hW1];clear hW1 HT;have HE1:=aH HT1.out.eff;have HS1:Hid (∀z∈([]:List Int),Sml z):=aH (fun z hz=>by cases hz);have T1:=aH HT1.out.res;have HB1:=aH HT1.out.low;have u0:=HE1.out.c0;have u1:=HE1.out.c1;have u2:=HE1.out.c2;have x0:=u0;have x1:=u1;have x2:=u2;have xf:=u2;go_wp2_with (go_at_call 191;refine (gG lo none 0 0 (w.heap.size+1+1) _ _ [] 0 false _ HE1.out HS1.out ⟨by omega,by omega⟩ HPL.out).mono ?_;rintro e' w7 ⟨rfl,hw7⟩;clear u0 u1 u2 x0 x1 x2 xf;unfold WrP at hw7;obtain ⟨sl7,d7,hd7,he7,hs7,hc7,hb7⟩:=hw7;have HE7:=aH he7;have HC7:=aH hc7;have T7:Hid (w7.heap[w.heap.size+1]?=some (.cells #[.map none,.int .i64 0,.bool false] 200 (0,0))):=aH ((hb7.block _ (by omega)).trans T1.out);have HB7:=aH (HB1.out.trans (hb7.mono (by omega)));clear he7 hs7 hc7 hb7;have u0:=HE7.out.c0;have u1:=HE7.out.c1;have u2:=HE7.out.c2;have x0:w7.cell? ⟨w.heap.size+1,0,none⟩=some (.map none):=(by simp [World.cell?,T7.out]);have x1:w7.cell? ⟨w.heap.size+1,1,none⟩=some (.int .i64 0):=(by simp [World.cell?,T7.out]);have x2:w7.cell? ⟨w.heap.size+1,2,none⟩=some (.bool false):=(by simp [World.cell?,T7.out]);have xf:∀i,w7.frozen? ⟨w.heap.size+1,i,none⟩=false:=(fun i=>by simp [World.frozen?,T7.out]))
    have hfin:(∀z,z∈sl7↔z∈U)/\D=(if hd7 then some d7 else none)/\(hd7=false->d7=0):=by
     have h:=HC7.out;rw [bB (by omega)] at h;obtain ⟨rfl,rfl,rfl⟩:=h;exact ⟨fun z=>by rw [HU2.out],by rw [HD2.out];rfl,fun h=>by cases h⟩
    have HFI:=aH hfin;clear hfin;generalize hW9:((w7.setCell ⟨w.heap.size+1,0,none⟩ (.map (some (w.heap.size+1+1)))).setCell ⟨w.heap.size+1,1,none⟩ (.int .i64 d7)).setCell ⟨w.heap.size+1,2,none⟩ (.bool hd7)=W9;obtain ⟨v0,v1,v2,O9,B9⟩:=mT HE7.out T7.out (by omega) hW9;have HO9:=aH O9;have HB9:=aH (B9 _ HB7.out);clear hW9 O9 B9;exact bodyPost_ret (v:= .agg #[.map (some (w.heap.size+1+1)),.int .i64 d7,.bool hd7]) (by simp [results,Tryz.results158,go_sem,v0,v1,v2]) rfl ⟨_,d7,hd7,sl7,rfl,by omega,HO9.out,HFI.out.1,HFI.out.2.1,HFI.out.2.2,HB9.out⟩
   ·have hk1:(kd == 1)=false:=by simp [h1]
    have HD2:Hid (D=none):=aH (by rw [HD.out,bB h0,bB h1]);go_enter Tryz.func158,Tryz.ntmps158
    go_wp2_with fail
    have hoth:=xAJ w (.cells #[.slice (some ⟨sb,so,none⟩) x.stmts.length c1,.int .i64 x.term.kind,.slice A2 x.term.targets.length c2,.slice A3 x.term.args.length c3,.int .i64 x.term.place.loc,.slice A4 x.term.place.proj.length c4,.string x.term.name] 116) (.cells #[.map (some (w.heap.size+1+1)),.int .i64 0,.bool false] 200) (.cells #[.int .i64 kd,.int .i64 pl,.slice A0 n c0,.int .i64 rk,.int .i64 op,.int .i64 rg,.bool mu,.int .i64 rl,.slice A rn c,.slice B xs.length d,.int .i64 lo] 111) #[.map (some (w.heap.size+1+1)),.int .i64 0,.bool false] 200;clear r0 r1 r2 r3 r4 r5 r6 r7 r8 r9 r10 HW HS;generalize ((((w.alloc (.cells #[.slice (some ⟨sb,so,none⟩) x.stmts.length c1,.int .i64 x.term.kind,.slice A2 x.term.targets.length c2,.slice A3 x.term.args.length c3,.int .i64 x.term.place.loc,.slice A4 x.term.place.proj.length c4,.string x.term.name] 116)).alloc (.cells #[.map (some (w.heap.size+1+1)),.int .i64 0,.bool false] 200)).alloc (.map #[] 0)).alloc (.cells #[.map (some (w.heap.size+1+1)),.int .i64 0,.bool false] 200)).alloc (.cells #[.int .i64 kd,.int .i64 pl,.slice A0 n c0,.int .i64 rk,.int .i64 op,.int .i64 rg,.bool mu,.int .i64 rl,.slice A rn c,.slice B xs.length d,.int .i64 lo] 111)=W9 at hoth ⊢;obtain ⟨g1,O9,B9⟩:=hoth;have v0:W9.cell? ⟨w.heap.size+1,0,none⟩=some (.map (some (w.heap.size+1+1))):=(by simp [World.cell?,g1]);have v1:W9.cell? ⟨w.heap.size+1,1,none⟩=some (.int .i64 0):=(by simp [World.cell?,g1]);have v2:W9.cell? ⟨w.heap.size+1,2,none⟩=some (.bool false):=(by simp [World.cell?,g1]);have HO9:=aH O9;have HB9:=aH B9;clear O9 B9 g1;exact bodyPost_ret (v:= .agg #[.map (some (w.heap.size+1+1)),.int .i64 0,.bool false]) (by simp [results,Tryz.results158,go_sem,v0,v1,v2]) rfl ⟨_,0,false,[],rfl,by omega,HO9.out,fun z=>by rw [HU2.out],by rw [HD2.out];rfl,fun _=>rfl,HB9.out⟩
 ·have hks2:¬(k:Int)<(x.stmts.length:Int):=by omega
  have HO:=aH hs3;have hol:=hs3.le;have hob:=hs3.big;have hU1:usB x k=usT x.term:=by unfold usB;rw [cG (by omega)]
  have hD1:dfB x k=dfT x.term:=by unfold dfB;rw [cG (by omega)]
  have HU:Hid (usB x k=opU x.term.args ++ ifU (x.term.kind=4\/(x.term.kind=3/\0<x.term.place.proj.length)) x.term.place.loc):=aH (by rw [hU1];rfl);have HD:Hid (dfB x k=if x.term.kind=3/\x.term.place.proj.length=0 then some x.term.place.loc else none):=aH (by rw [hD1];rfl);generalize usB x k=U at *;generalize dfB x k=D at *;clear hs1 hs3 hU1 hD1;generalize x.term.kind=kd at *;generalize x.term.place.loc=pl at *;generalize x.term.place.proj.length=n at *;generalize x.term.args=xs at *;have HUU:=aH hu;have HX:Hid (∀z∈opU xs,Sml z):=aH (fun z hz=>hu z (by rw [HU.out];simp [hz]));clear hu;by_cases h3:kd=3
  ·subst h3;have HPL:Hid (0<n->Sml pl):=aH (fun hn=>HUU.out pl (by rw [HU.out,ifU_t (.inr ⟨rfl,hn⟩)];simp));go_enter Tryz.func158,Tryz.ntmps158
   go_wp2_with fail
   rw [HW.out];clear HW;go_wp2_with (first | (go_at_call 191;refine (gG pl A4 n c4 (w.heap.size+1+1) _ _ sl6 0 false _ HE6.out HS6.out ⟨by omega,by omega⟩ HPL.out).mono ?_;rintro e' w7 ⟨rfl,hw7⟩;clear u0 u1 u2 x0 x1 x2 xf y1 y4 y5;unfold WrP at hw7;obtain ⟨sl7,d7,hd7,he7,hs7,hc7,hb7⟩:=hw7;have HE7:=aH he7;have HC7:=aH hc7;have T7:Hid (w7.heap[w.heap.size+1]?=some (.cells #[.map none,.int .i64 0,.bool false] 200 (0,0))):=aH ((hb7.block _ (by omega)).trans T6.out);have HB7:=aH (HB6.out.trans (hb7.mono (by omega)));clear he7 hs7 hc7 hb7;have u0:=HE7.out.c0;have u1:=HE7.out.c1;have u2:=HE7.out.c2;have x0:w7.cell? ⟨w.heap.size+1,0,none⟩=some (.map none):=(by simp [World.cell?,T7.out]);have x1:w7.cell? ⟨w.heap.size+1,1,none⟩=some (.int .i64 0):=(by simp [World.cell?,T7.out]);have x2:w7.cell? ⟨w.heap.size+1,2,none⟩=some (.bool false):=(by simp [World.cell?,T7.out]);have xf:∀i,w7.frozen? ⟨w.heap.size+1,i,none⟩=false:=(fun i=>by simp [World.frozen?,T7.out])) | (go_at_call 190;refine (fY xs A3 c3 _ _ [] 0 false _ HS.out.eff (fun z hz=>by cases hz) (HO.out.keep ROp.keeps HS.out.low) HX.out).mono ?_;rintro e' w6 ⟨rfl,sl6,he6,hm6,hs6,hg6⟩;have HE6:=aH he6;have HM6:=aH hm6;have HS6:=aH hs6;have T6:Hid (w6.heap[w.heap.size+1]?=some (.cells #[.map none,.int .i64 0,.bool false] 200 (0,0))):=aH ((hg6.block _ (by have:=HS.out.size;omega) (fun e=>by injection e with e;omega)).trans HS.out.res);have HB6:=aH (HS.out.low.grown hg6 (by have:=HS.out.size;omega) (fun g hg=>by injection hg with hg;omega));have HY:=aH (fun i v hi=>dS (HS.out.box i v hi) HS.out.eff.own hg6);obtain ⟨-,y1,-,-,y4,y5⟩:=aT HY.out;have u0:=HE6.out.c0;have u1:=HE6.out.c1;have u2:=HE6.out.c2;have x0:w6.cell? ⟨w.heap.size+1,0,none⟩=some (.map none):=(by simp [World.cell?,T6.out]);have x1:w6.cell? ⟨w.heap.size+1,1,none⟩=some (.int .i64 0):=(by simp [World.cell?,T6.out]);have x2:w6.cell? ⟨w.heap.size+1,2,none⟩=some (.bool false):=(by simp [World.cell?,T6.out]);have xf:∀i,w6.frozen? ⟨w.heap.size+1,i,none⟩=false:=(fun i=>by simp [World.frozen?,T6.out]);clear he6 hm6 hs6 hg6))
   have hfin:(∀z,z∈sl7↔z∈U)/\D=(if hd7 then some d7 else none)/\(hd7=false->d7=0):=by
    by_cases hn:0<n
    ·have h:=HC7.out;rw [bD hn] at h;obtain ⟨g1,rfl,rfl⟩:=h;exact ⟨fun z=>by rw [g1 z,HM6.out z,HU.out,ifU_t (by simp [hn])];simp [or_comm],by rw [HD.out,bB (by omega)];rfl,fun _=>rfl⟩
    ·have h:=HC7.out;rw [bB hn] at h;obtain ⟨rfl,rfl,rfl⟩:=h;exact ⟨fun z=>by rw [HM6.out z,HU.out,ifU_f (by omega)];simp,by rw [HD.out,bD (by simp;omega)];rfl,fun h=>by cases h⟩
   have HFI:=aH hfin;clear hfin;generalize hW9:((w7.setCell ⟨w.heap.size+1,0,none⟩ (.map (some (w.heap.size+1+1)))).setCell ⟨w.heap.size+1,1,none⟩ (.int .i64 d7)).setCell ⟨w.heap.size+1,2,none⟩ (.bool hd7)=W9;obtain ⟨v0,v1,v2,O9,B9⟩:=mT HE7.out T7.out (by omega) hW9;have HO9:=aH O9;have HB9:=aH (B9 _ HB7.out);clear hW9 O9 B9;exact bodyPost_ret (v:= .agg #[.map (some (w.heap.size+1+1)),.int .i64 d7,.bool hd7]) (by simp [results,Tryz.results158,go_sem,v0,v1,v2]) rfl ⟨_,d7,hd7,sl7,rfl,by omega,HO9.out,HFI.out.1,HFI.out.2.1,HFI.out.2.2,HB9.out⟩
  ·have HD2:Hid (D=none):=aH (by rw [HD.out,bB (fun h=>h3 h.1)]);have hk3:(kd == 3)=false:=by simp [h3]
   by_cases h4:kd=4
   ·subst h4;have HPL:Hid (Sml pl):=aH (HUU.out pl (by rw [HU.out,ifU_t (.inl rfl)];simp));go_enter Tryz.func158,Tryz.ntmps158
    go_wp2_with fail
    rw [HW.out];clear HW;go_wp2_with (first | (go_at_call 190;refine (fY xs A3 c3 _ _ [] 0 false _ HS.out.eff (fun z hz=>by cases hz) (HO.out.keep ROp.keeps HS.out.low) HX.out).mono ?_;rintro e' w6 ⟨rfl,sl6,he6,hm6,hs6,hg6⟩;have HE6:=aH he6;have HM6:=aH hm6;have HS6:=aH hs6;have T6:Hid (w6.heap[w.heap.size+1]?=some (.cells #[.map none,.int .i64 0,.bool false] 200 (0,0))):=aH ((hg6.block _ (by have:=HS.out.size;omega) (fun e=>by injection e with e;omega)).trans HS.out.res);have HB6:=aH (HS.out.low.grown hg6 (by have:=HS.out.size;omega) (fun g hg=>by injection hg with hg;omega));have HY:=aH (fun i v hi=>dS (HS.out.box i v hi) HS.out.eff.own hg6);obtain ⟨-,y1,-,-,y4,y5⟩:=aT HY.out;have u0:=HE6.out.c0;have u1:=HE6.out.c1;have u2:=HE6.out.c2;have x0:w6.cell? ⟨w.heap.size+1,0,none⟩=some (.map none):=(by simp [World.cell?,T6.out]);have x1:w6.cell? ⟨w.heap.size+1,1,none⟩=some (.int .i64 0):=(by simp [World.cell?,T6.out]);have x2:w6.cell? ⟨w.heap.size+1,2,none⟩=some (.bool false):=(by simp [World.cell?,T6.out]);have xf:∀i,w6.frozen? ⟨w.heap.size+1,i,none⟩=false:=(fun i=>by simp [World.frozen?,T6.out]);clear he6 hm6 hs6 hg6) | (at_mapUpdate;refine dW _ rfl _ _ _ rfl _ 1000000 sl6 rfl HE6.out.own (by unfold maxLen;omega) pl rfl rfl (eV HPL.out) ?_;intro w7 ho7 hg7;clear u0 u1 u2 x0 x1 x2 xf y1 y4 y5;have HE7:=aH (HE6.out.put hg7 (ho7.tight (fun z hz=>(List.mem_cons.1 hz).elim (fun e=>e ▸ HPL.out) (HS6.out z))));have T7:Hid (w7.heap[w.heap.size+1]?=some (.cells #[.map none,.int .i64 0,.bool false] 200 (0,0))):=aH ((hg7.block _ (by have:=HE6.out.lt;omega) (fun e=>by injection e with e;omega)).trans T6.out);have HB7:=aH (HB6.out.grown hg7 HB6.out.size (fun g hg=>by injection hg with hg;omega));clear ho7 hg7;have u0:=HE7.out.c0;have u1:=HE7.out.c1;have u2:=HE7.out.c2;have x0:w7.cell? ⟨w.heap.size+1,0,none⟩=some (.map none):=(by simp [World.cell?,T7.out]);have x1:w7.cell? ⟨w.heap.size+1,1,none⟩=some (.int .i64 0):=(by simp [World.cell?,T7.out]);have x2:w7.cell? ⟨w.heap.size+1,2,none⟩=some (.bool false):=(by simp [World.cell?,T7.out]);have xf:∀i,w7.frozen? ⟨w.heap.size+1,i,none⟩=false:=(fun i=>by simp [World.frozen?,T7.out])))
    generalize hW9:((w7.setCell ⟨w.heap.size+1,0,none⟩ (.map (some (w.heap.size+1+1)))).setCell ⟨w.heap.size+1,1,none⟩ (.int .i64 0)).setCell ⟨w.heap.size+1,2,none⟩ (.bool false)=W9;obtain ⟨v0,v1,v2,O9,B9⟩:=mT HE7.out T7.out (by omega) hW9;have HO9:=aH O9;have HB9:=aH (B9 _ HB7.out);clear hW9 O9 B9;exact bodyPost_ret (v:= .agg #[.map (some (w.heap.size+1+1)),.int .i64 0,.bool false]) (by simp [results,Tryz.results158,go_sem,v0,v1,v2]) rfl ⟨_,0,false,(pl :: sl6),rfl,by omega,HO9.out,fun z=>by rw [cM,HM6.out z,HU.out,ifU_t (by simp)];simp [or_comm],by rw [HD2.out];rfl,fun _=>rfl,HB9.out⟩
   ·have hk4:(kd == 4)=false:=by simp [h4]
    have HU2:Hid (U=opU xs):=aH (by rw [HU.out,ifU_f (by omega),List.append_nil]);go_enter Tryz.func158,Tryz.ntmps158
    go_wp2_with fail
    rw [HW.out];clear HW;go_wp2_with (go_at_call 190;refine (fY xs A3 c3 _ _ [] 0 false _ HS.out.eff (fun z hz=>by cases hz) (HO.out.keep ROp.keeps HS.out.low) HX.out).mono ?_;rintro e' w6 ⟨rfl,sl6,he6,hm6,hs6,hg6⟩;have HE6:=aH he6;have HM6:=aH hm6;have HS6:=aH hs6;have T6:Hid (w6.heap[w.heap.size+1]?=some (.cells #[.map none,.int .i64 0,.bool false] 200 (0,0))):=aH ((hg6.block _ (by have:=HS.out.size;omega) (fun e=>by injection e with e;omega)).trans HS.out.res);have HB6:=aH (HS.out.low.grown hg6 (by have:=HS.out.size;omega) (fun g hg=>by injection hg with hg;omega));have HY:=aH (fun i v hi=>dS (HS.out.box i v hi) HS.out.eff.own hg6);obtain ⟨-,y1,-,-,y4,y5⟩:=aT HY.out;have u0:=HE6.out.c0;have u1:=HE6.out.c1;have u2:=HE6.out.c2;have x0:w6.cell? ⟨w.heap.size+1,0,none⟩=some (.map none):=(by simp [World.cell?,T6.out]);have x1:w6.cell? ⟨w.heap.size+1,1,none⟩=some (.int .i64 0):=(by simp [World.cell?,T6.out]);have x2:w6.cell? ⟨w.heap.size+1,2,none⟩=some (.bool false):=(by simp [World.cell?,T6.out]);have xf:∀i,w6.frozen? ⟨w.heap.size+1,i,none⟩=false:=(fun i=>by simp [World.frozen?,T6.out]);clear he6 hm6 hs6 hg6)
    generalize hW9:((w6.setCell ⟨w.heap.size+1,0,none⟩ (.map (some (w.heap.size+1+1)))).setCell ⟨w.heap.size+1,1,none⟩ (.int .i64 0)).setCell ⟨w.heap.size+1,2,none⟩ (.bool false)=W9;obtain ⟨v0,v1,v2,O9,B9⟩:=mT HE6.out T6.out (by omega) hW9;have HO9:=aH O9;have HB9:=aH (B9 _ HB6.out);clear hW9 O9 B9;exact bodyPost_ret (v:= .agg #[.map (some (w.heap.size+1+1)),.int .i64 0,.bool false]) (by simp [results,Tryz.results158,go_sem,v0,v1,v2]) rfl ⟨_,0,false,sl6,rfl,by omega,HO9.out,fun z=>by rw [HM6.out z,HU2.out];simp,by rw [HD2.out];rfl,fun _=>rfl,HB9.out⟩
theorem st3 {W:World} {n0:Nat} {T:TypeId} {z0 z1 z2:Value} (hr:W.heap[n0+1]?=some (.cells #[z0,z1,z2] T (0,0))) (v0 v1 v2:Value) {W9:World}
 (hW:((W.setCell ⟨n0+1,0,none⟩ v0).setCell ⟨n0+1,1,none⟩ v1).setCell ⟨n0+1,2,none⟩ v2=W9):
 W9.cell? ⟨n0+1,0,none⟩=some v0/\W9.cell? ⟨n0+1,1,none⟩=some v1/\W9.cell? ⟨n0+1,2,none⟩=some v2/\(∀k,k≠n0+1->W9.heap[k]?=W.heap[k]?)/\∀w,Below n0 w W->Below n0 w W9:=by
 have hb:W9.heap[n0+1]?=some (.cells #[v0,v1,v2] T (0,0)):=by
  rw [<- hW];simp [World.setCell,Array.getElem?_modify,hr]
 refine ⟨by simp [World.cell?,hb],by simp [World.cell?,hb],by simp [World.cell?,hb],fun k hk=>?_,fun w hl=>?_⟩
 ·rw [<- hW];exact (bJ _ ⟨n0+1,2,none⟩ _ _ hk).trans ((bJ _ ⟨n0+1,1,none⟩ _ _ hk).trans (bJ _ ⟨n0+1,0,none⟩ _ _ hk))
 ·rw [<- hW];exact ((hl.setCell (by simp) _).setCell (by simp) _).setCell (by simp) _
def AtR (N:Prop) (U:List Int) (D:Option Int) (w:World) (e':Ending) (w':World):Prop:=
 EfR U D w e' w'\/(N/\U=[]/\D=none/\e' = .returned (.agg #[.map none,.int .i64 0,.bool false])/\Below w.heap.size w w')
theorem xFC (b:Bdy) (bh:BH) (p:Int) (w:World) (H:BdAt w b bh) (hc:cntB b.blocks<=1000000000000) (hp : -9223372036854775808<=p/\p<=9223372036854775807) (hu:∀z∈usP b.blocks p,Sml z):
 Calls Tryz.prog 126 #[.agg (bdC b bh).toArray,.int .i64 p] w (AtR (locB b.blocks p=none) (usP b.blocks p) (dfP b.blocks p) w):=by
 obtain ⟨N,hN⟩:∃N:Prop,(locB b.blocks p=none)=N:=⟨_,rfl⟩;rw [hN];have HNN:=aH hN;clear hN;have HL:=aH (fun (W:World) (hb:Below w.heap.size w W)=>lR b bh p W (H.keep hb) hc hp);have HBLK:=aH H.blk;have hbl:=H.blk.le;have hbg:=H.blk.big;have HY:=aH (cT w [Value.string b.name,.slice bh.A1 b.regions.length bh.c1,.slice bh.A2 b.outl.length bh.c2,.slice bh.A3 b.types.length bh.c3,.slice bh.A4 b.locals.length bh.c4,.int .i64 b.args,.slice bh.A5 b.blocks.length bh.c5] 59);clear H hc;have hal:Below w.heap.size w ((w.alloc (.cells (bdC b bh).toArray 59)).alloc (.cells #[.map none,.int .i64 0,.bool false] 200)):=((aZ _ _).alloc (bA _) _).alloc (by simp) _
 have hr0:((w.alloc (.cells (bdC b bh).toArray 59)).alloc (.cells #[.map none,.int .i64 0,.bool false] 200)).heap[w.heap.size+1]?=some (.cells #[.map none,.int .i64 0,.bool false] 200 (0,0)):=by
  have:=heap_alloc_new (w.alloc (.cells (bdC b bh).toArray 59)) (.cells #[.map none,.int .i64 0,.bool false] 200);rwa [bK] at this
 have hyy:∀i v,(bdC b bh)[i]?=some v->((w.alloc (.cells (bdC b bh).toArray 59)).alloc (.cells #[.map none,.int .i64 0,.bool false] 200)).cell? ⟨w.heap.size,i,none⟩=some v:=fun i v hi=>cQ ((aZ _ _).alloc (bA _) _) (HY.out i v hi)
 have HAL:=aH hal;have HR0:=aH hr0;have HYY:=aH hyy;clear hal hr0 hyy HY;unfold bdC at *;cases hloc:locB b.blocks p with
 | none=>
   rw [jX hloc,xAL hloc];have HN0:Hid N:=aH (by rw [<- HNN.out];exact hloc);rw [hloc] at HL;unfold lcV at HL;clear hloc hu;go_enter Tryz.func126,Tryz.ntmps126
   go_wp2_with (go_at_call 92;refine (HL.out _ HAL.out).mono ?_;rintro e' w1 ⟨rfl,hb1⟩;have HB1:=aH (HAL.out.trans (hb1.mono HAL.out.size));have HR1:=aH ((hb1.block _ (Array.getElem?_eq_some_iff.1 HR0.out).1).trans HR0.out);have x0:w1.cell? ⟨w.heap.size+1,0,none⟩=some (.map none):=(by simp [World.cell?,HR1.out]);have x1:w1.cell? ⟨w.heap.size+1,1,none⟩=some (.int .i64 0):=(by simp [World.cell?,HR1.out]);have x2:w1.cell? ⟨w.heap.size+1,2,none⟩=some (.bool false):=(by simp [World.cell?,HR1.out]);have xf:∀i,w1.frozen? ⟨w.heap.size+1,i,none⟩=false:=(fun i=>by simp [World.frozen?,HR1.out]);clear hb1)
   generalize hW9:((w1.setCell ⟨w.heap.size+1,0,none⟩ (.map none)).setCell ⟨w.heap.size+1,1,none⟩ (.int .i64 0)).setCell ⟨w.heap.size+1,2,none⟩ (.bool false)=W9;obtain ⟨v0,v1,v2,-,B9⟩:=st3 HR1.out _ _ _ hW9;have HB9:=aH (B9 _ HB1.out);clear hW9 B9;exact bodyPost_ret (v:= .agg #[.map none,.int .i64 0,.bool false]) (by simp [results,Tryz.results126,go_sem,v0,v1,v2]) rfl (.inr ⟨HN0.out,rfl,rfl,rfl,HB9.out⟩)
 | some ik=>
   obtain ⟨i,k⟩:=ik;obtain ⟨x,hx,hk,hi⟩:=vU hloc;rw [xBF hloc hx] at hu ⊢;rw [xBT hloc hx];rw [hloc] at HL;unfold lcV at HL;obtain ⟨bb,oo,hA,hbb,hxx⟩:=HBLK.out.sl.at_ hi;obtain ⟨A1,c1,A2,c2,A3,c3,A4,c4,p0,p1,p2,p3,p4,p5,p6,hs1,hs2,hs3,-⟩:=eX hxx;rw [show b.blocks[i]=x from by rw [bF hi] at hx;injection hx] at p0 p1 p2 p3 p4 p5 p6 hs1 hs2 hs3;have HE:=aH (fun (W:World) (hb:Below w.heap.size w W)=>xDH x A1 A2 A3 A4 c1 c2 c3 c4 k W (hs1.keep RSt.keeps hb) (hs3.keep ROp.keeps hb) hu hk);rw [hA] at HL HAL HR0 HYY ⊢;unfold bkL at HE;have HP:=aH (bM p0 (bM p1 (bM p2 (bM p3 (bM p4 (bM p5 p6))))));have hki:(i:Int)<(b.blocks.length:Int):=by omega
   generalize usB x k=U at *;generalize dfB x k=D at *;clear hA hxx hs1 hs2 hs3 hloc hx hu p0 p1 p2 p3 p4 p5 p6;go_enter Tryz.func126,Tryz.ntmps126
   go_wp2_with (first
    | (go_at_call 158;refine (HE.out _ HB1.out).mono ?_;rintro e' w3 he3;unfold EfR at he3;obtain ⟨mb,d,hd,sl,rfl,hmb,ho3,hm3,hd3,hz3,hb3⟩:=he3;have hmb2:w.heap.size+1≠mb:=(by have:=(Array.getElem?_eq_some_iff.1 HR1.out).1;omega);have HB3:=aH (HB1.out.trans (hb3.mono HB1.out.size));have HR3:=aH ((hb3.block _ (Array.getElem?_eq_some_iff.1 HR1.out).1).trans HR1.out);have HO3:=aH ho3;have HM3:=aH hm3;have HD3:=aH hd3;have HZ3:=aH hz3;have hmw:w.heap.size<=mb:=(by have:=HB1.out.size;omega);clear y6 m0 m1 m2 m3 m4 m5 m6;have x0:w3.cell? ⟨w.heap.size+1,0,none⟩=some (.map none):=(by simp [World.cell?,HR3.out]);have x1:w3.cell? ⟨w.heap.size+1,1,none⟩=some (.int .i64 0):=(by simp [World.cell?,HR3.out]);have x2:w3.cell? ⟨w.heap.size+1,2,none⟩=some (.bool false):=(by simp [World.cell?,HR3.out]);have xf:∀i,w3.frozen? ⟨w.heap.size+1,i,none⟩=false:=(fun i=>by simp [World.frozen?,HR3.out]);clear hb3 hmb ho3 hm3 hd3 hz3)
    | (go_at_call 92;refine (HL.out _ HAL.out).mono ?_;rintro e' w1 ⟨rfl,hb1⟩;have HB1:=aH (HAL.out.trans (hb1.mono HAL.out.size));have HR1:=aH ((hb1.block _ (Array.getElem?_eq_some_iff.1 HR0.out).1).trans HR0.out);have y6:=cQ hb1 (HYY.out 6 _ rfl);have m0:=cQ HB1.out HP.out.1;have m1:=cQ HB1.out HP.out.2.1;have m2:=cQ HB1.out HP.out.2.2.1;have m3:=cQ HB1.out HP.out.2.2.2.1;have m4:=cQ HB1.out HP.out.2.2.2.2.1;have m5:=cQ HB1.out HP.out.2.2.2.2.2.1;have m6:=cQ HB1.out HP.out.2.2.2.2.2.2;clear hb1))
   generalize hW9:((w3.setCell ⟨w.heap.size+1,0,none⟩ (.map (some mb))).setCell ⟨w.heap.size+1,1,none⟩ (.int .i64 d)).setCell ⟨w.heap.size+1,2,none⟩ (.bool hd)=W9;obtain ⟨v0,v1,v2,g9,B9⟩:=st3 HR3.out _ _ _ hW9;have HB9:=aH (B9 _ HB3.out);have HO9:=aH (HO3.out.block (g9 mb (Ne.symm hmb2)));clear hW9 B9 g9;exact bodyPost_ret (v:= .agg #[.map (some mb),.int .i64 d,.bool hd]) (by simp [results,Tryz.results126,go_sem,v0,v1,v2]) rfl (.inl ⟨mb,d,hd,sl,rfl,hmw,HO9.out,HM3.out,HD3.out,HZ3.out,HB9.out⟩)
theorem AtR.df {N:Prop} {U:List Int} {D:Option Int} {w w':World} {e':Ending} (h:AtR N U D w e' w'):∃(m:Option Nat) (d:Int) (hd:Bool),e' = .returned (.agg #[.map m,.int .i64 d,.bool hd])/\dfV D = .tuple #[.int .i64 d,.bool hd]/\Below w.heap.size w w':=by
 rcases h with ⟨mb,d,hd,sl,rfl,_,_,_,h3,h4,hb⟩ | ⟨_,rfl,rfl,rfl,hb⟩
 ·refine ⟨_,d,hd,rfl,?_,hb⟩;cases hd with
  | true=>rw [h3];rfl
  | false=>rw [h3,h4 rfl];rfl
 ·exact ⟨_,0,false,rfl,rfl,hb⟩
structure NotSkip (b:Bdy):Prop where
 nm:ShortB b->xEP b<=3000
 typ:b.types.length<=200
 out:b.outl.length<=200
 reg:b.regions.length<=200
 blk:b.blocks.length<=200
end
section
open Go Go.RowKit
attribute [local irreducible] Calls
structure Ok12 (b:Bdy):Prop where
 ns:NotSkip b
 chk:chkB b=0
 cnt:cntB b.blocks<=60
 loc:b.locals.length<=20
 reg:b.regions.length<=10
end
end Go.Proofs.YtkaigkfbkpinlaaGreatDoor
