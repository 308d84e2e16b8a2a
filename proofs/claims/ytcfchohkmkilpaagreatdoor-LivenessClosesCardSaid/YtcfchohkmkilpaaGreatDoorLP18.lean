/-
  Parts of the proof: HR HT HU HW HX V53.
-/
import Derived.Test.YtcfchohkmkilpaaGreatDoorLP0
import Derived.Test.YtcfchohkmkilpaaGreatDoorLP17
import Derived.Test.YtcfchohkmkilpaaGreatDoorLP12
import Derived.Test.YtcfchohkmkilpaaGreatDoorHV
import Derived.Test.YtcfchohkmkilpaaGreatDoorLP13
namespace Go.Proofs.YtcfchohkmkilpaaGreatDoor
set_option maxRecDepth 100000
set_option maxHeartbeats 16000000
section
open Go Go.RowKit Go.Maps
def EfR (U:List Int) (D:Option Int) (w:World) (e':Ending) (w':World):Prop:=
 ∃mb d hd sl,e' = .returned (.agg #[.map (some mb),.int .i64 d,.bool hd])/\w.heap.size<=mb/\OwnI w' mb 1000000 sl/\(∀z,z∈sl↔z∈U)/\(D=if hd then some d else none)/\(hd=false->d=0)/\Below w.heap.size w w'
structure EfS (w:World) (L:List Value) (W:World):Prop where
 eff:EffW (w.heap.size+1+1+1) (w.heap.size+1+1) 1000000 [] 0 false W
 res:W.heap[w.heap.size+1]?=some (.cells #[.map none,.int .i64 0,.bool false] 77 (0,0))
 box:∀i v,L[i]?=some v->W.cell? ⟨w.heap.size,i,none⟩=some v
 low:Below w.heap.size w W
 size:W.heap.size=w.heap.size+1+1+1+1
theorem xAU (w:World) (L:List Value) (T:TypeId):EfS w L ((((w.alloc (.cells L.toArray T)).alloc (.cells #[.map none,.int .i64 0,.bool false] 77)).alloc (.map #[] 0)).alloc (.cells #[.map (some (w.heap.size+1+1)),.int .i64 0,.bool false] 77)):=by
 have hb1:Below w.heap.size w (w.alloc (.cells L.toArray T)):=(aX _ _).alloc (aY _) _;have hx1:=cQ w L T;have hs1:(w.alloc (.cells L.toArray T)).heap.size=w.heap.size+1:=by simp
 generalize w.alloc (.cells L.toArray T)=w1 at *;have hb2:Below w1.heap.size w1 (w1.alloc (.cells #[.map none,.int .i64 0,.bool false] 77)):=(aX _ _).alloc (aY _) _;have hx2:=heap_alloc_new w1 (.cells #[.map none,.int .i64 0,.bool false] 77);have hs2:(w1.alloc (.cells #[.map none,.int .i64 0,.bool false] 77)).heap.size=w1.heap.size+1:=by simp
 generalize w1.alloc (.cells #[.map none,.int .i64 0,.bool false] 77)=w2 at *;have hb3:Below w2.heap.size w2 (w2.alloc (.map #[] 0)):=(aX _ _).alloc (aY _) _;have hx3:=OwnI.made w2;have hs3:(w2.alloc (.map #[] 0)).heap.size=w2.heap.size+1:=by simp
 generalize w2.alloc (.map #[] 0)=w3 at *;have hb4:Below w3.heap.size w3 (w3.alloc (.cells #[.map (some (w.heap.size+1+1)),.int .i64 0,.bool false] 77)):=(aX _ _).alloc (aY _) _;have hx4:=heap_alloc_new w3 (.cells #[.map (some (w.heap.size+1+1)),.int .i64 0,.bool false] 77);have hs4:(w3.alloc (.cells #[.map (some (w.heap.size+1+1)),.int .i64 0,.bool false] 77)).heap.size=w3.heap.size+1:=by simp
 generalize w3.alloc (.cells #[.map (some (w.heap.size+1+1)),.int .i64 0,.bool false] 77)=w4 at *;have e3:w3.heap.size=w.heap.size+1+1+1:=by omega
 have e2:w2.heap.size=w.heap.size+1+1:=by omega
 refine ⟨⟨by rw [<- e3];exact hx4,(hx3.mono (Nat.zero_le _)).below hb4 |> fun h=>by rw [<- e2];exact h⟩,?_,fun i v hi=>cO hb4 (cO hb3 (cO hb2 (hx1 i v hi))),((hb1.trans (hb2.mono (by omega))).trans (hb3.mono (by omega))).trans (hb4.mono (by omega)),by omega⟩;rw [<- hs1] at *;exact (hb4.block _ (by omega)).trans ((hb3.block _ (by omega)).trans hx2)
structure EfT (w:World) (Ls:List Value) (W:World):Prop where
 eff:EffW (w.heap.size+1+1+1) (w.heap.size+1+1) 1000000 [] 0 false W
 res:W.heap[w.heap.size+1]?=some (.cells #[.map none,.int .i64 0,.bool false] 77 (0,0))
 stm:∀i v,Ls[i]?=some v->W.cell? ⟨w.heap.size+1+1+1+1,i,none⟩=some v
 low:Below w.heap.size w W
 size:W.heap.size=w.heap.size+1+1+1+1+1
theorem qG {w W:World} {L:List Value} (h:EfS w L W) (Ls:List Value) (T:TypeId):EfT w Ls (W.alloc (.cells Ls.toArray T)):=by
 have hb:Below W.heap.size W (W.alloc (.cells Ls.toArray T)):=(aX _ _).alloc (aY _) _;have hx:=cQ W Ls T;have hs:(W.alloc (.cells Ls.toArray T)).heap.size=W.heap.size+1:=by simp
 have hz:=h.size;rw [hz] at hx;exact ⟨h.eff.keep hb,(hb.block _ (by omega)).trans h.res,hx,h.low.trans (hb.mono (by omega)),by omega⟩
theorem xAV (w:World) (o1 o4 o5:Obj) (cs:Array Value) (T:TypeId):let W:=((((w.alloc o1).alloc (.cells cs T)).alloc (.map #[] 0)).alloc o4).alloc o5
 W.heap[w.heap.size+1]?=some (.cells cs T (0,0))/\OwnI W (w.heap.size+1+1) 1000000 []/\Below w.heap.size w W:=by
 intro W;have e:W=((((w.alloc o1).alloc (.cells cs T)).alloc (.map #[] 0)).alloc o4).alloc o5:=rfl;clear_value W
 have hb1:Below w.heap.size w (w.alloc o1):=(aX _ _).alloc (aY _) _;have hs1:(w.alloc o1).heap.size=w.heap.size+1:=by simp
 generalize w.alloc o1=w1 at *;have hb2:Below w1.heap.size w1 (w1.alloc (.cells cs T)):=(aX _ _).alloc (aY _) _;have hx2:=heap_alloc_new w1 (.cells cs T);have hs2:(w1.alloc (.cells cs T)).heap.size=w1.heap.size+1:=by simp
 generalize w1.alloc (.cells cs T)=w2 at *;have hb3:Below w2.heap.size w2 (w2.alloc (.map #[] 0)):=(aX _ _).alloc (aY _) _;have hx3:=OwnI.made w2;have hs3:(w2.alloc (.map #[] 0)).heap.size=w2.heap.size+1:=by simp
 generalize w2.alloc (.map #[] 0)=w3 at *;have hb4:Below w3.heap.size w3 (w3.alloc o4):=(aX _ _).alloc (aY _) _;have hs4:(w3.alloc o4).heap.size=w3.heap.size+1:=by simp
 generalize w3.alloc o4=w4 at *;have hb5:Below w4.heap.size w4 (w4.alloc o5):=(aX _ _).alloc (aY _) _;rw [<- e] at hb5;have e2:w2.heap.size=w.heap.size+1+1:=by omega
 refine ⟨?_,?_,(((hb1.trans (hb2.mono (by omega))).trans (hb3.mono (by omega))).trans (hb4.mono (by omega))).trans (hb5.mono (by omega))⟩
 ·rw [<- hs1];exact (hb5.block _ (by omega)).trans ((hb4.block _ (by omega)).trans ((hb3.block _ (by omega)).trans hx2))
 ·rw [<- e2];exact ((hx3.mono (Nat.zero_le _)).below hb4).below hb5
theorem lT {W:World} {n0 eb mb:Nat} {sl:List Int} {d:Int} {hd:Bool} (h:EffW eb mb 1000000 sl d hd W) (hr:W.heap[n0+1]?=some (.cells #[.map none,.int .i64 0,.bool false] 77 (0,0))) (hm:mb≠n0+1) {W9:World}
 (hW:((W.setCell ⟨n0+1,0,none⟩ (.map (some mb))).setCell ⟨n0+1,1,none⟩ (.int .i64 d)).setCell ⟨n0+1,2,none⟩ (.bool hd)=W9):
 W9.cell? ⟨n0+1,0,none⟩=some (.map (some mb))/\W9.cell? ⟨n0+1,1,none⟩=some (.int .i64 d)/\W9.cell? ⟨n0+1,2,none⟩=some (.bool hd)/\OwnI W9 mb 1000000 sl/\∀w,Below n0 w W->Below n0 w W9:=by
 have hb:W9.heap[n0+1]?=some (.cells #[.map (some mb),.int .i64 d,.bool hd] 77 (0,0)):=by
  rw [<- hW];simp [World.setCell,Array.getElem?_modify,hr]
 refine ⟨by simp [World.cell?,hb],by simp [World.cell?,hb],by simp [World.cell?,hb],h.own.block ?_,fun w hl=>?_⟩
 ·rw [<- hW];exact (bH _ ⟨n0+1,2,none⟩ _ _ hm).trans ((bH _ ⟨n0+1,1,none⟩ _ _ hm).trans (bH _ ⟨n0+1,0,none⟩ _ _ hm))
 ·rw [<- hW];exact ((hl.setCell (by simp) _).setCell (by simp) _).setCell (by simp) _
theorem xDU (x:Blk) (A1 A2 A3 A4:Option Addr) (c1 c2 c3 c4 k:Nat) (w:World) (hs1:Slc 11 RSt w A1 c1 x.stmts) (hs3:Slc 4 ROp w A3 c3 x.term.args) (hu:∀z∈usB x k,Sml z) (hk:k<=x.stmts.length):
 Calls Tryz.prog 64 #[.agg (bkL x A1 c1 A2 c2 A3 c3 A4 c4).toArray,.int .i64 k] w (EfR (usB x k) (dfB x k) w):=by
 have hbl:=hs1.le;have hbg:=hs1.big;have hmm:= @run_makeMap Tryz.prog;have hst:=xAU w (bkL x A1 c1 A2 c2 A3 c3 A4 c4) 55;unfold bkL at *;obtain ⟨W0,hW0⟩:∃W0,((((w.alloc (.cells #[.slice A1 x.stmts.length c1,.int .i64 x.term.kind,.slice A2 x.term.targets.length c2,.slice A3 x.term.args.length c3,.int .i64 x.term.place.loc,.slice A4 x.term.place.proj.length c4,.string x.term.name] 55)).alloc (.cells #[.map none,.int .i64 0,.bool false] 77)).alloc (.map #[] 0)).alloc (.cells #[.map (some (w.heap.size+1+1)),.int .i64 0,.bool false] 77))=W0:=⟨_,rfl⟩;have HS:Hid (EfS w _ W0):=aF (hW0 ▸ hst);have hsz:=HS.out.size;have HW:=aF hW0;clear hst hW0;by_cases hks:k<x.stmts.length
 ·have hks2:(k:Int)<(x.stmts.length:Int):=by omega
  obtain ⟨sb,so,hSA,hsb,hss⟩:=hs1.sl.at_ hks;obtain ⟨A0,c0,A,c,B,d,q0,q1,q2,q3,q4,q5,q6,q7,q8,q9,q10,-,-,hsa⟩:=iY hss;rw [hSA];have HO:=aF hsa;have hol:=hsa.le;have hob:=hsa.big;have hU1:usB x k=usS x.stmts[k]:=by unfold usB;rw [bD hks]
  have hD1:dfB x k=dfS x.stmts[k]:=by unfold dfB;rw [bD hks]
  have HU:Hid (usB x k=if x.stmts[k].kind=0 then opU x.stmts[k].rv.args ++ ifU (x.stmts[k].rv.kind=1) x.stmts[k].rv.place.loc ++ ifU (0<x.stmts[k].place.proj.length) x.stmts[k].place.loc else []):=aF (by rw [hU1];rfl);have HD:Hid (dfB x k=if x.stmts[k].kind=0 then (if x.stmts[k].place.proj.length=0 then some x.stmts[k].place.loc else none) else if x.stmts[k].kind=1 then some x.stmts[k].loc else none):=aF (by rw [hD1];rfl);generalize usB x k=U at *;generalize dfB x k=D at *;rw [hSA] at HS HW;have r0:=cO HS.out.low q0;have r1:=cO HS.out.low q1;have r2:=cO HS.out.low q2;have r3:=cO HS.out.low q3;have r4:=cO HS.out.low q4;have r5:=cO HS.out.low q5;have r6:=cO HS.out.low q6;have r7:=cO HS.out.low q7;have r8:=cO HS.out.low q8;have r9:=cO HS.out.low q9;have r10:=cO HS.out.low q10;rw [<- HW.out] at r0 r1 r2 r3 r4 r5 r6 r7 r8 r9 r10;clear hs1 hs3 hU1 hD1 hss hsa q0 q1 q2 q3 q4 q5 q6 q7 q8 q9 q10;generalize x.stmts[k]=s at *;generalize s.kind=kd at *;generalize s.place.loc=pl at *;generalize s.place.proj.length=n at *;generalize s.rv.kind=rk at *;generalize s.rv.op=op at *;generalize s.rv.reg=rg at *;generalize s.rv.mu=mu at *;generalize s.rv.place.loc=rl at *;generalize s.rv.place.proj.length=rn at *;generalize s.rv.args=xs at *;generalize s.loc=lo at *;have HUU:=aF hu;clear hu;by_cases h0:kd=0
  ·subst h0;have HU1:Hid (U=opU xs ++ ifU (rk=1) rl ++ ifU (0<n) pl):=aF (by rw [HU.out,bA rfl]);have HD2:Hid (D=if n=0 then some pl else none):=aF (by rw [HD.out,bA rfl]);have HX:Hid (∀z∈opU xs,Sml z):=aF (fun z hz=>HUU.out z (by rw [HU1.out];simp [hz]));have HPL:Hid (0<n->Sml pl):=aF (fun hn=>HUU.out pl (by rw [HU1.out,ifU_t hn];simp));clear HU HD;by_cases h1:rk=1
   ·subst h1;have HRL:Hid (Sml rl):=aF (HUU.out rl (by rw [HU1.out,ifU_t rfl];simp));have HU2:Hid (U=opU xs ++ [rl] ++ ifU (0<n) pl):=aF (by rw [HU1.out,ifU_t rfl]);have hts:=qG HS.out [.int .i64 0,.int .i64 pl,.slice A0 n c0,.int .i64 1,.int .i64 op,.int .i64 rg,.bool mu,.int .i64 rl,.slice A rn c,.slice B xs.length d,.int .i64 lo] 73;go_enter Tryz.func64,Tryz.ntmps64
    go_wp2_with fail
    clear r0 r1 r2 r3 r4 r5 r6 r7 r8 r9 r10;rw [HW.out];clear HW;have HT:=aF hts;clear hts;go_wp2_with (first | (go_at_call 101;refine (gR pl A0 n c0 (w.heap.size+1+1) _ _ (rl :: sl6) 0 false _ HE5.out HS5.out ⟨by omega,by omega⟩ HPL.out).mono ?_;rintro e' w7 ⟨rfl,hw7⟩;clear u0 u1 u2 x0 x1 x2 xf;clear z1 z2 z3 z7;unfold WrP at hw7;obtain ⟨sl7,d7,hd7,he7,hs7,hc7,hb7⟩:=hw7;have HE7:=aF he7;have HC7:=aF hc7;have T7:Hid (w7.heap[w.heap.size+1]?=some (.cells #[.map none,.int .i64 0,.bool false] 77 (0,0))):=aF ((hb7.block _ (by omega)).trans T5.out);have HB7:=aF (HB5.out.trans (hb7.mono (by omega)));clear he7 hs7 hc7 hb7;have u0:=HE7.out.c0;have u1:=HE7.out.c1;have u2:=HE7.out.c2;have x0:w7.cell? ⟨w.heap.size+1,0,none⟩=some (.map none):=(by simp [World.cell?,T7.out]);have x1:w7.cell? ⟨w.heap.size+1,1,none⟩=some (.int .i64 0):=(by simp [World.cell?,T7.out]);have x2:w7.cell? ⟨w.heap.size+1,2,none⟩=some (.bool false):=(by simp [World.cell?,T7.out]);have xf:∀i,w7.frozen? ⟨w.heap.size+1,i,none⟩=false:=(fun i=>by simp [World.frozen?,T7.out])) | (go_at_call 100;refine (gK xs B d _ _ [] 0 false _ HT.out.eff (fun z hz=>by cases hz) (HO.out.keep ROp.keeps HT.out.low) HX.out).mono ?_;rintro e' w6 ⟨rfl,sl6,he6,hm6,hs6,hg6⟩;have HE6:=aF he6;have HM6:=aF hm6;have HS6:=aF hs6;have T6:Hid (w6.heap[w.heap.size+1]?=some (.cells #[.map none,.int .i64 0,.bool false] 77 (0,0))):=aF ((hg6.block _ (by have:=HT.out.size;omega) (fun e=>by injection e with e;omega)).trans HT.out.res);have HB6:=aF (HT.out.low.grown hg6 (by have:=HT.out.size;omega) (fun g hg=>by injection hg with hg;omega));have HY6:=aF (fun i v hi=>dX (HT.out.stm i v hi) HT.out.eff.own hg6);have z1:=HY6.out 1 _ rfl;have z2:=HY6.out 2 _ rfl;have z3:=HY6.out 3 _ rfl;have z7:=HY6.out 7 _ rfl;have u0:=HE6.out.c0;have u1:=HE6.out.c1;have u2:=HE6.out.c2;have x0:w6.cell? ⟨w.heap.size+1,0,none⟩=some (.map none):=(by simp [World.cell?,T6.out]);have x1:w6.cell? ⟨w.heap.size+1,1,none⟩=some (.int .i64 0):=(by simp [World.cell?,T6.out]);have x2:w6.cell? ⟨w.heap.size+1,2,none⟩=some (.bool false):=(by simp [World.cell?,T6.out]);have xf:∀i,w6.frozen? ⟨w.heap.size+1,i,none⟩=false:=(fun i=>by simp [World.frozen?,T6.out]);clear he6 hm6 hs6 hg6) | (at_mapUpdate;refine eA _ rfl _ _ _ rfl _ 1000000 sl6 rfl HE6.out.own (by unfold maxLen;omega) rl rfl rfl (fO HRL.out) ?_;intro w5 ho5 hg5;clear u0 u1 u2 x0 x1 x2 xf;clear z1 z2 z3 z7;have HS5:Hid (∀z∈rl :: sl6,Sml z):=aF (fun z hz=>(List.mem_cons.1 hz).elim (fun e=>e ▸ HRL.out) (HS6.out z));have HE5:=aF (HE6.out.put hg5 (ho5.tight HS5.out));have T5:Hid (w5.heap[w.heap.size+1]?=some (.cells #[.map none,.int .i64 0,.bool false] 77 (0,0))):=aF ((hg5.block _ (by have:=HE6.out.lt;omega) (fun e=>by injection e with e;omega)).trans T6.out);have HB5:=aF (HB6.out.grown hg5 HB6.out.size (fun g hg=>by injection hg with hg;omega));have HY5:=aF (fun i v hi=>dX (HY6.out i v hi) HE6.out.own hg5);have z1:=HY5.out 1 _ rfl;have z2:=HY5.out 2 _ rfl;have z3:=HY5.out 3 _ rfl;have z7:=HY5.out 7 _ rfl;have u0:=HE5.out.c0;have u1:=HE5.out.c1;have u2:=HE5.out.c2;have x0:w5.cell? ⟨w.heap.size+1,0,none⟩=some (.map none):=(by simp [World.cell?,T5.out]);have x1:w5.cell? ⟨w.heap.size+1,1,none⟩=some (.int .i64 0):=(by simp [World.cell?,T5.out]);have x2:w5.cell? ⟨w.heap.size+1,2,none⟩=some (.bool false):=(by simp [World.cell?,T5.out]);have xf:∀i,w5.frozen? ⟨w.heap.size+1,i,none⟩=false:=(fun i=>by simp [World.frozen?,T5.out]);clear ho5 hg5))
    have hfin:(∀z,z∈sl7↔z∈U)/\D=(if hd7 then some d7 else none)/\(hd7=false->d7=0):=by
     by_cases hn:0<n
     ·have h:=HC7.out;rw [bA hn] at h;obtain ⟨g1,rfl,rfl⟩:=h;exact ⟨fun z=>by rw [g1 z,HU2.out,ifU_t hn];simp [HM6.out z,or_comm,or_assoc],by rw [HD2.out,aZ (by omega)];rfl,fun _=>rfl⟩
     ·have h:=HC7.out;rw [aZ hn] at h;obtain ⟨rfl,rfl,rfl⟩:=h;exact ⟨fun z=>by rw [HU2.out,ifU_f hn];simp [HM6.out z,or_comm],by rw [HD2.out,bA (by omega)];rfl,fun h=>by cases h⟩
    have HFI:=aF hfin;clear hfin;generalize hW9:((w7.setCell ⟨w.heap.size+1,0,none⟩ (.map (some (w.heap.size+1+1)))).setCell ⟨w.heap.size+1,1,none⟩ (.int .i64 d7)).setCell ⟨w.heap.size+1,2,none⟩ (.bool hd7)=W9;obtain ⟨v0,v1,v2,O9,B9⟩:=lT HE7.out T7.out (by omega) hW9;have HO9:=aF O9;have HB9:=aF (B9 _ HB7.out);clear hW9 O9 B9;exact bodyPost_ret (v:= .agg #[.map (some (w.heap.size+1+1)),.int .i64 d7,.bool hd7]) (by simp [results,Tryz.results64,go_sem,v0,v1,v2]) rfl ⟨_,d7,hd7,sl7,rfl,by omega,HO9.out,HFI.out.1,HFI.out.2.1,HFI.out.2.2,HB9.out⟩
   ·have hr1:(rk == 1)=false:=by simp [h1]
    have HU2:Hid (U=opU xs ++ ifU (0<n) pl):=aF (by rw [HU1.out,ifU_f h1,List.append_nil]);have hts:=qG HS.out [.int .i64 0,.int .i64 pl,.slice A0 n c0,.int .i64 rk,.int .i64 op,.int .i64 rg,.bool mu,.int .i64 rl,.slice A rn c,.slice B xs.length d,.int .i64 lo] 73;go_enter Tryz.func64,Tryz.ntmps64
    go_wp2_with fail
    clear r0 r1 r2 r3 r4 r5 r6 r7 r8 r9 r10;rw [HW.out];clear HW;have HT:=aF hts;clear hts;go_wp2_with (first | (go_at_call 101;refine (gR pl A0 n c0 (w.heap.size+1+1) _ _ sl6 0 false _ HE6.out HS6.out ⟨by omega,by omega⟩ HPL.out).mono ?_;rintro e' w7 ⟨rfl,hw7⟩;clear u0 u1 u2 x0 x1 x2 xf;clear z1 z2 z3 z7;unfold WrP at hw7;obtain ⟨sl7,d7,hd7,he7,hs7,hc7,hb7⟩:=hw7;have HE7:=aF he7;have HC7:=aF hc7;have T7:Hid (w7.heap[w.heap.size+1]?=some (.cells #[.map none,.int .i64 0,.bool false] 77 (0,0))):=aF ((hb7.block _ (by omega)).trans T6.out);have HB7:=aF (HB6.out.trans (hb7.mono (by omega)));clear he7 hs7 hc7 hb7;have u0:=HE7.out.c0;have u1:=HE7.out.c1;have u2:=HE7.out.c2;have x0:w7.cell? ⟨w.heap.size+1,0,none⟩=some (.map none):=(by simp [World.cell?,T7.out]);have x1:w7.cell? ⟨w.heap.size+1,1,none⟩=some (.int .i64 0):=(by simp [World.cell?,T7.out]);have x2:w7.cell? ⟨w.heap.size+1,2,none⟩=some (.bool false):=(by simp [World.cell?,T7.out]);have xf:∀i,w7.frozen? ⟨w.heap.size+1,i,none⟩=false:=(fun i=>by simp [World.frozen?,T7.out])) | (go_at_call 100;refine (gK xs B d _ _ [] 0 false _ HT.out.eff (fun z hz=>by cases hz) (HO.out.keep ROp.keeps HT.out.low) HX.out).mono ?_;rintro e' w6 ⟨rfl,sl6,he6,hm6,hs6,hg6⟩;have HE6:=aF he6;have HM6:=aF hm6;have HS6:=aF hs6;have T6:Hid (w6.heap[w.heap.size+1]?=some (.cells #[.map none,.int .i64 0,.bool false] 77 (0,0))):=aF ((hg6.block _ (by have:=HT.out.size;omega) (fun e=>by injection e with e;omega)).trans HT.out.res);have HB6:=aF (HT.out.low.grown hg6 (by have:=HT.out.size;omega) (fun g hg=>by injection hg with hg;omega));have HY6:=aF (fun i v hi=>dX (HT.out.stm i v hi) HT.out.eff.own hg6);have z1:=HY6.out 1 _ rfl;have z2:=HY6.out 2 _ rfl;have z3:=HY6.out 3 _ rfl;have z7:=HY6.out 7 _ rfl;have u0:=HE6.out.c0;have u1:=HE6.out.c1;have u2:=HE6.out.c2;have x0:w6.cell? ⟨w.heap.size+1,0,none⟩=some (.map none):=(by simp [World.cell?,T6.out]);have x1:w6.cell? ⟨w.heap.size+1,1,none⟩=some (.int .i64 0):=(by simp [World.cell?,T6.out]);have x2:w6.cell? ⟨w.heap.size+1,2,none⟩=some (.bool false):=(by simp [World.cell?,T6.out]);have xf:∀i,w6.frozen? ⟨w.heap.size+1,i,none⟩=false:=(fun i=>by simp [World.frozen?,T6.out]);clear he6 hm6 hs6 hg6))
    have hfin:(∀z,z∈sl7↔z∈U)/\D=(if hd7 then some d7 else none)/\(hd7=false->d7=0):=by
     by_cases hn:0<n
     ·have h:=HC7.out;rw [bA hn] at h;obtain ⟨g1,rfl,rfl⟩:=h;exact ⟨fun z=>by rw [g1 z,HU2.out,ifU_t hn];simp [HM6.out z,or_comm],by rw [HD2.out,aZ (by omega)];rfl,fun _=>rfl⟩
     ·have h:=HC7.out;rw [aZ hn] at h;obtain ⟨rfl,rfl,rfl⟩:=h;exact ⟨fun z=>by rw [HU2.out,ifU_f hn];simp [HM6.out z],by rw [HD2.out,bA (by omega)];rfl,fun h=>by cases h⟩
    have HFI:=aF hfin;clear hfin;generalize hW9:((w7.setCell ⟨w.heap.size+1,0,none⟩ (.map (some (w.heap.size+1+1)))).setCell ⟨w.heap.size+1,1,none⟩ (.int .i64 d7)).setCell ⟨w.heap.size+1,2,none⟩ (.bool hd7)=W9;obtain ⟨v0,v1,v2,O9,B9⟩:=lT HE7.out T7.out (by omega) hW9;have HO9:=aF O9;have HB9:=aF (B9 _ HB7.out);clear hW9 O9 B9;exact bodyPost_ret (v:= .agg #[.map (some (w.heap.size+1+1)),.int .i64 d7,.bool hd7]) (by simp [results,Tryz.results64,go_sem,v0,v1,v2]) rfl ⟨_,d7,hd7,sl7,rfl,by omega,HO9.out,HFI.out.1,HFI.out.2.1,HFI.out.2.2,HB9.out⟩
  ·have hk0:(kd == 0)=false:=by simp [h0]
   have HU2:Hid (U=[]):=aF (by rw [HU.out,aZ h0]);by_cases h1:kd=1
   ·subst h1;have HD2:Hid (D=some lo):=aF (by rw [HD.out,aZ (by omega),bA rfl]);have HPL:Hid (0<0->Sml lo):=aF (fun h=>absurd h (by omega));have hts:=qG HS.out [.int .i64 1,.int .i64 pl,.slice A0 n c0,.int .i64 rk,.int .i64 op,.int .i64 rg,.bool mu,.int .i64 rl,.slice A rn c,.slice B xs.length d,.int .i64 lo] 73;go_enter Tryz.func64,Tryz.ntmps64
    go_wp2_with fail
    clear r0 r1 r2 r3 r4 r5 r6 r7 r8 r9 r10;rw [HW.out];clear HW;have HT:=aF hts;clear hts;obtain ⟨W1,hW1⟩:∃W1,W0.alloc (.cells #[.int .i64 1,.int .i64 pl,.slice A0 n c0,.int .i64 rk,.int .i64 op,.int .i64 rg,.bool mu,.int .i64 rl,.slice A rn c,.slice B xs.length d,.int .i64 lo] 73)=W1:=⟨_,rfl⟩;have HT1:Hid (EfT w [.int .i64 1,.int .i64 pl,.slice A0 n c0,.int .i64 rk,.int .i64 op,.int .i64 rg,.bool mu,.int .i64 rl,.slice A rn c,.slice B xs.length d,.int .i64 lo] W1):=aF (hW1 ▸ HT.out);rw [hW1];clear hW1 HT;have HE1:=aF HT1.out.eff;have HS1:Hid (∀z∈([]:List Int),Sml z):=aF (fun z hz=>by cases hz);have T1:=aF HT1.out.res;have HB1:=aF HT1.out.low;have u0:=HE1.out.c0;have u1:=HE1.out.c1;have u2:=HE1.out.c2;have x0:=u0;have x1:=u1;have x2:=u2;have xf:=u2;go_wp2_with (go_at_call 101;refine (gR lo none 0 0 (w.heap.size+1+1) _ _ [] 0 false _ HE1.out HS1.out ⟨by omega,by omega⟩ HPL.out).mono ?_;rintro e' w7 ⟨rfl,hw7⟩;clear u0 u1 u2 x0 x1 x2 xf;unfold WrP at hw7;obtain ⟨sl7,d7,hd7,he7,hs7,hc7,hb7⟩:=hw7;have HE7:=aF he7;have HC7:=aF hc7;have T7:Hid (w7.heap[w.heap.size+1]?=some (.cells #[.map none,.int .i64 0,.bool false] 77 (0,0))):=aF ((hb7.block _ (by omega)).trans T1.out);have HB7:=aF (HB1.out.trans (hb7.mono (by omega)));clear he7 hs7 hc7 hb7;have u0:=HE7.out.c0;have u1:=HE7.out.c1;have u2:=HE7.out.c2;have x0:w7.cell? ⟨w.heap.size+1,0,none⟩=some (.map none):=(by simp [World.cell?,T7.out]);have x1:w7.cell? ⟨w.heap.size+1,1,none⟩=some (.int .i64 0):=(by simp [World.cell?,T7.out]);have x2:w7.cell? ⟨w.heap.size+1,2,none⟩=some (.bool false):=(by simp [World.cell?,T7.out]);have xf:∀i,w7.frozen? ⟨w.heap.size+1,i,none⟩=false:=(fun i=>by simp [World.frozen?,T7.out]))
    have hfin:(∀z,z∈sl7↔z∈U)/\D=(if hd7 then some d7 else none)/\(hd7=false->d7=0):=by
     have h:=HC7.out;rw [aZ (by omega)] at h;obtain ⟨rfl,rfl,rfl⟩:=h;exact ⟨fun z=>by rw [HU2.out],by rw [HD2.out];rfl,fun h=>by cases h⟩
    have HFI:=aF hfin;clear hfin;generalize hW9:((w7.setCell ⟨w.heap.size+1,0,none⟩ (.map (some (w.heap.size+1+1)))).setCell ⟨w.heap.size+1,1,none⟩ (.int .i64 d7)).setCell ⟨w.heap.size+1,2,none⟩ (.bool hd7)=W9;obtain ⟨v0,v1,v2,O9,B9⟩:=lT HE7.out T7.out (by omega) hW9;have HO9:=aF O9;have HB9:=aF (B9 _ HB7.out);clear hW9 O9 B9;exact bodyPost_ret (v:= .agg #[.map (some (w.heap.size+1+1)),.int .i64 d7,.bool hd7]) (by simp [results,Tryz.results64,go_sem,v0,v1,v2]) rfl ⟨_,d7,hd7,sl7,rfl,by omega,HO9.out,HFI.out.1,HFI.out.2.1,HFI.out.2.2,HB9.out⟩
   ·have hk1:(kd == 1)=false:=by simp [h1]
    have HD2:Hid (D=none):=aF (by rw [HD.out,aZ h0,aZ h1]);go_enter Tryz.func64,Tryz.ntmps64
    go_wp2_with fail
    have hoth:=xAV w (.cells #[.slice (some ⟨sb,so,none⟩) x.stmts.length c1,.int .i64 x.term.kind,.slice A2 x.term.targets.length c2,.slice A3 x.term.args.length c3,.int .i64 x.term.place.loc,.slice A4 x.term.place.proj.length c4,.string x.term.name] 55) (.cells #[.map (some (w.heap.size+1+1)),.int .i64 0,.bool false] 77) (.cells #[.int .i64 kd,.int .i64 pl,.slice A0 n c0,.int .i64 rk,.int .i64 op,.int .i64 rg,.bool mu,.int .i64 rl,.slice A rn c,.slice B xs.length d,.int .i64 lo] 73) #[.map (some (w.heap.size+1+1)),.int .i64 0,.bool false] 77;clear r0 r1 r2 r3 r4 r5 r6 r7 r8 r9 r10 HW HS;generalize ((((w.alloc (.cells #[.slice (some ⟨sb,so,none⟩) x.stmts.length c1,.int .i64 x.term.kind,.slice A2 x.term.targets.length c2,.slice A3 x.term.args.length c3,.int .i64 x.term.place.loc,.slice A4 x.term.place.proj.length c4,.string x.term.name] 55)).alloc (.cells #[.map (some (w.heap.size+1+1)),.int .i64 0,.bool false] 77)).alloc (.map #[] 0)).alloc (.cells #[.map (some (w.heap.size+1+1)),.int .i64 0,.bool false] 77)).alloc (.cells #[.int .i64 kd,.int .i64 pl,.slice A0 n c0,.int .i64 rk,.int .i64 op,.int .i64 rg,.bool mu,.int .i64 rl,.slice A rn c,.slice B xs.length d,.int .i64 lo] 73)=W9 at hoth ⊢;obtain ⟨g1,O9,B9⟩:=hoth;have v0:W9.cell? ⟨w.heap.size+1,0,none⟩=some (.map (some (w.heap.size+1+1))):=(by simp [World.cell?,g1]);have v1:W9.cell? ⟨w.heap.size+1,1,none⟩=some (.int .i64 0):=(by simp [World.cell?,g1]);have v2:W9.cell? ⟨w.heap.size+1,2,none⟩=some (.bool false):=(by simp [World.cell?,g1]);have HO9:=aF O9;have HB9:=aF B9;clear O9 B9 g1;exact bodyPost_ret (v:= .agg #[.map (some (w.heap.size+1+1)),.int .i64 0,.bool false]) (by simp [results,Tryz.results64,go_sem,v0,v1,v2]) rfl ⟨_,0,false,[],rfl,by omega,HO9.out,fun z=>by rw [HU2.out],by rw [HD2.out];rfl,fun _=>rfl,HB9.out⟩
 ·have hks2:¬(k:Int)<(x.stmts.length:Int):=by omega
  have HO:=aF hs3;have hol:=hs3.le;have hob:=hs3.big;have hU1:usB x k=usT x.term:=by unfold usB;rw [cE (by omega)]
  have hD1:dfB x k=dfT x.term:=by unfold dfB;rw [cE (by omega)]
  have HU:Hid (usB x k=opU x.term.args ++ ifU (x.term.kind=4\/(x.term.kind=3/\0<x.term.place.proj.length)) x.term.place.loc):=aF (by rw [hU1];rfl);have HD:Hid (dfB x k=if x.term.kind=3/\x.term.place.proj.length=0 then some x.term.place.loc else none):=aF (by rw [hD1];rfl);generalize usB x k=U at *;generalize dfB x k=D at *;clear hs1 hs3 hU1 hD1;generalize x.term.kind=kd at *;generalize x.term.place.loc=pl at *;generalize x.term.place.proj.length=n at *;generalize x.term.args=xs at *;have HUU:=aF hu;have HX:Hid (∀z∈opU xs,Sml z):=aF (fun z hz=>hu z (by rw [HU.out];simp [hz]));clear hu;by_cases h3:kd=3
  ·subst h3;have HPL:Hid (0<n->Sml pl):=aF (fun hn=>HUU.out pl (by rw [HU.out,ifU_t (.inr ⟨rfl,hn⟩)];simp));go_enter Tryz.func64,Tryz.ntmps64
   go_wp2_with fail
   rw [HW.out];clear HW;go_wp2_with (first | (go_at_call 101;refine (gR pl A4 n c4 (w.heap.size+1+1) _ _ sl6 0 false _ HE6.out HS6.out ⟨by omega,by omega⟩ HPL.out).mono ?_;rintro e' w7 ⟨rfl,hw7⟩;clear u0 u1 u2 x0 x1 x2 xf y1 y4 y5;unfold WrP at hw7;obtain ⟨sl7,d7,hd7,he7,hs7,hc7,hb7⟩:=hw7;have HE7:=aF he7;have HC7:=aF hc7;have T7:Hid (w7.heap[w.heap.size+1]?=some (.cells #[.map none,.int .i64 0,.bool false] 77 (0,0))):=aF ((hb7.block _ (by omega)).trans T6.out);have HB7:=aF (HB6.out.trans (hb7.mono (by omega)));clear he7 hs7 hc7 hb7;have u0:=HE7.out.c0;have u1:=HE7.out.c1;have u2:=HE7.out.c2;have x0:w7.cell? ⟨w.heap.size+1,0,none⟩=some (.map none):=(by simp [World.cell?,T7.out]);have x1:w7.cell? ⟨w.heap.size+1,1,none⟩=some (.int .i64 0):=(by simp [World.cell?,T7.out]);have x2:w7.cell? ⟨w.heap.size+1,2,none⟩=some (.bool false):=(by simp [World.cell?,T7.out]);have xf:∀i,w7.frozen? ⟨w.heap.size+1,i,none⟩=false:=(fun i=>by simp [World.frozen?,T7.out])) | (go_at_call 100;refine (gK xs A3 c3 _ _ [] 0 false _ HS.out.eff (fun z hz=>by cases hz) (HO.out.keep ROp.keeps HS.out.low) HX.out).mono ?_;rintro e' w6 ⟨rfl,sl6,he6,hm6,hs6,hg6⟩;have HE6:=aF he6;have HM6:=aF hm6;have HS6:=aF hs6;have T6:Hid (w6.heap[w.heap.size+1]?=some (.cells #[.map none,.int .i64 0,.bool false] 77 (0,0))):=aF ((hg6.block _ (by have:=HS.out.size;omega) (fun e=>by injection e with e;omega)).trans HS.out.res);have HB6:=aF (HS.out.low.grown hg6 (by have:=HS.out.size;omega) (fun g hg=>by injection hg with hg;omega));have HY:=aF (fun i v hi=>dX (HS.out.box i v hi) HS.out.eff.own hg6);obtain ⟨-,y1,-,-,y4,y5⟩:=aR HY.out;have u0:=HE6.out.c0;have u1:=HE6.out.c1;have u2:=HE6.out.c2;have x0:w6.cell? ⟨w.heap.size+1,0,none⟩=some (.map none):=(by simp [World.cell?,T6.out]);have x1:w6.cell? ⟨w.heap.size+1,1,none⟩=some (.int .i64 0):=(by simp [World.cell?,T6.out]);have x2:w6.cell? ⟨w.heap.size+1,2,none⟩=some (.bool false):=(by simp [World.cell?,T6.out]);have xf:∀i,w6.frozen? ⟨w.heap.size+1,i,none⟩=false:=(fun i=>by simp [World.frozen?,T6.out]);clear he6 hm6 hs6 hg6))
   have hfin:(∀z,z∈sl7↔z∈U)/\D=(if hd7 then some d7 else none)/\(hd7=false->d7=0):=by
    by_cases hn:0<n
    ·have h:=HC7.out;rw [bA hn] at h;obtain ⟨g1,rfl,rfl⟩:=h;exact ⟨fun z=>by rw [g1 z,HM6.out z,HU.out,ifU_t (by simp [hn])];simp [or_comm],by rw [HD.out,aZ (by omega)];rfl,fun _=>rfl⟩
    ·have h:=HC7.out;rw [aZ hn] at h;obtain ⟨rfl,rfl,rfl⟩:=h;exact ⟨fun z=>by rw [HM6.out z,HU.out,ifU_f (by omega)];simp,by rw [HD.out,bA (by simp;omega)];rfl,fun h=>by cases h⟩
   have HFI:=aF hfin;clear hfin;generalize hW9:((w7.setCell ⟨w.heap.size+1,0,none⟩ (.map (some (w.heap.size+1+1)))).setCell ⟨w.heap.size+1,1,none⟩ (.int .i64 d7)).setCell ⟨w.heap.size+1,2,none⟩ (.bool hd7)=W9;obtain ⟨v0,v1,v2,O9,B9⟩:=lT HE7.out T7.out (by omega) hW9;have HO9:=aF O9;have HB9:=aF (B9 _ HB7.out);clear hW9 O9 B9;exact bodyPost_ret (v:= .agg #[.map (some (w.heap.size+1+1)),.int .i64 d7,.bool hd7]) (by simp [results,Tryz.results64,go_sem,v0,v1,v2]) rfl ⟨_,d7,hd7,sl7,rfl,by omega,HO9.out,HFI.out.1,HFI.out.2.1,HFI.out.2.2,HB9.out⟩
  ·have HD2:Hid (D=none):=aF (by rw [HD.out,aZ (fun h=>h3 h.1)]);have hk3:(kd == 3)=false:=by simp [h3]
   by_cases h4:kd=4
   ·subst h4;have HPL:Hid (Sml pl):=aF (HUU.out pl (by rw [HU.out,ifU_t (.inl rfl)];simp));go_enter Tryz.func64,Tryz.ntmps64
    go_wp2_with fail
    rw [HW.out];clear HW;go_wp2_with (first | (go_at_call 100;refine (gK xs A3 c3 _ _ [] 0 false _ HS.out.eff (fun z hz=>by cases hz) (HO.out.keep ROp.keeps HS.out.low) HX.out).mono ?_;rintro e' w6 ⟨rfl,sl6,he6,hm6,hs6,hg6⟩;have HE6:=aF he6;have HM6:=aF hm6;have HS6:=aF hs6;have T6:Hid (w6.heap[w.heap.size+1]?=some (.cells #[.map none,.int .i64 0,.bool false] 77 (0,0))):=aF ((hg6.block _ (by have:=HS.out.size;omega) (fun e=>by injection e with e;omega)).trans HS.out.res);have HB6:=aF (HS.out.low.grown hg6 (by have:=HS.out.size;omega) (fun g hg=>by injection hg with hg;omega));have HY:=aF (fun i v hi=>dX (HS.out.box i v hi) HS.out.eff.own hg6);obtain ⟨-,y1,-,-,y4,y5⟩:=aR HY.out;have u0:=HE6.out.c0;have u1:=HE6.out.c1;have u2:=HE6.out.c2;have x0:w6.cell? ⟨w.heap.size+1,0,none⟩=some (.map none):=(by simp [World.cell?,T6.out]);have x1:w6.cell? ⟨w.heap.size+1,1,none⟩=some (.int .i64 0):=(by simp [World.cell?,T6.out]);have x2:w6.cell? ⟨w.heap.size+1,2,none⟩=some (.bool false):=(by simp [World.cell?,T6.out]);have xf:∀i,w6.frozen? ⟨w.heap.size+1,i,none⟩=false:=(fun i=>by simp [World.frozen?,T6.out]);clear he6 hm6 hs6 hg6) | (at_mapUpdate;refine eA _ rfl _ _ _ rfl _ 1000000 sl6 rfl HE6.out.own (by unfold maxLen;omega) pl rfl rfl (fO HPL.out) ?_;intro w7 ho7 hg7;clear u0 u1 u2 x0 x1 x2 xf y1 y4 y5;have HE7:=aF (HE6.out.put hg7 (ho7.tight (fun z hz=>(List.mem_cons.1 hz).elim (fun e=>e ▸ HPL.out) (HS6.out z))));have T7:Hid (w7.heap[w.heap.size+1]?=some (.cells #[.map none,.int .i64 0,.bool false] 77 (0,0))):=aF ((hg7.block _ (by have:=HE6.out.lt;omega) (fun e=>by injection e with e;omega)).trans T6.out);have HB7:=aF (HB6.out.grown hg7 HB6.out.size (fun g hg=>by injection hg with hg;omega));clear ho7 hg7;have u0:=HE7.out.c0;have u1:=HE7.out.c1;have u2:=HE7.out.c2;have x0:w7.cell? ⟨w.heap.size+1,0,none⟩=some (.map none):=(by simp [World.cell?,T7.out]);have x1:w7.cell? ⟨w.heap.size+1,1,none⟩=some (.int .i64 0):=(by simp [World.cell?,T7.out]);have x2:w7.cell? ⟨w.heap.size+1,2,none⟩=some (.bool false):=(by simp [World.cell?,T7.out]);have xf:∀i,w7.frozen? ⟨w.heap.size+1,i,none⟩=false:=(fun i=>by simp [World.frozen?,T7.out])))
    generalize hW9:((w7.setCell ⟨w.heap.size+1,0,none⟩ (.map (some (w.heap.size+1+1)))).setCell ⟨w.heap.size+1,1,none⟩ (.int .i64 0)).setCell ⟨w.heap.size+1,2,none⟩ (.bool false)=W9;obtain ⟨v0,v1,v2,O9,B9⟩:=lT HE7.out T7.out (by omega) hW9;have HO9:=aF O9;have HB9:=aF (B9 _ HB7.out);clear hW9 O9 B9;exact bodyPost_ret (v:= .agg #[.map (some (w.heap.size+1+1)),.int .i64 0,.bool false]) (by simp [results,Tryz.results64,go_sem,v0,v1,v2]) rfl ⟨_,0,false,(pl :: sl6),rfl,by omega,HO9.out,fun z=>by rw [cL,HM6.out z,HU.out,ifU_t (by simp)];simp [or_comm],by rw [HD2.out];rfl,fun _=>rfl,HB9.out⟩
   ·have hk4:(kd == 4)=false:=by simp [h4]
    have HU2:Hid (U=opU xs):=aF (by rw [HU.out,ifU_f (by omega),List.append_nil]);go_enter Tryz.func64,Tryz.ntmps64
    go_wp2_with fail
    rw [HW.out];clear HW;go_wp2_with (go_at_call 100;refine (gK xs A3 c3 _ _ [] 0 false _ HS.out.eff (fun z hz=>by cases hz) (HO.out.keep ROp.keeps HS.out.low) HX.out).mono ?_;rintro e' w6 ⟨rfl,sl6,he6,hm6,hs6,hg6⟩;have HE6:=aF he6;have HM6:=aF hm6;have HS6:=aF hs6;have T6:Hid (w6.heap[w.heap.size+1]?=some (.cells #[.map none,.int .i64 0,.bool false] 77 (0,0))):=aF ((hg6.block _ (by have:=HS.out.size;omega) (fun e=>by injection e with e;omega)).trans HS.out.res);have HB6:=aF (HS.out.low.grown hg6 (by have:=HS.out.size;omega) (fun g hg=>by injection hg with hg;omega));have HY:=aF (fun i v hi=>dX (HS.out.box i v hi) HS.out.eff.own hg6);obtain ⟨-,y1,-,-,y4,y5⟩:=aR HY.out;have u0:=HE6.out.c0;have u1:=HE6.out.c1;have u2:=HE6.out.c2;have x0:w6.cell? ⟨w.heap.size+1,0,none⟩=some (.map none):=(by simp [World.cell?,T6.out]);have x1:w6.cell? ⟨w.heap.size+1,1,none⟩=some (.int .i64 0):=(by simp [World.cell?,T6.out]);have x2:w6.cell? ⟨w.heap.size+1,2,none⟩=some (.bool false):=(by simp [World.cell?,T6.out]);have xf:∀i,w6.frozen? ⟨w.heap.size+1,i,none⟩=false:=(fun i=>by simp [World.frozen?,T6.out]);clear he6 hm6 hs6 hg6)
    generalize hW9:((w6.setCell ⟨w.heap.size+1,0,none⟩ (.map (some (w.heap.size+1+1)))).setCell ⟨w.heap.size+1,1,none⟩ (.int .i64 0)).setCell ⟨w.heap.size+1,2,none⟩ (.bool false)=W9;obtain ⟨v0,v1,v2,O9,B9⟩:=lT HE6.out T6.out (by omega) hW9;have HO9:=aF O9;have HB9:=aF (B9 _ HB6.out);clear hW9 O9 B9;exact bodyPost_ret (v:= .agg #[.map (some (w.heap.size+1+1)),.int .i64 0,.bool false]) (by simp [results,Tryz.results64,go_sem,v0,v1,v2]) rfl ⟨_,0,false,sl6,rfl,by omega,HO9.out,fun z=>by rw [HM6.out z,HU2.out];simp,by rw [HD2.out];rfl,fun _=>rfl,HB9.out⟩
theorem st3 {W:World} {n0:Nat} {T:TypeId} {z0 z1 z2:Value} (hr:W.heap[n0+1]?=some (.cells #[z0,z1,z2] T (0,0))) (v0 v1 v2:Value) {W9:World}
 (hW:((W.setCell ⟨n0+1,0,none⟩ v0).setCell ⟨n0+1,1,none⟩ v1).setCell ⟨n0+1,2,none⟩ v2=W9):
 W9.cell? ⟨n0+1,0,none⟩=some v0/\W9.cell? ⟨n0+1,1,none⟩=some v1/\W9.cell? ⟨n0+1,2,none⟩=some v2/\(∀k,k≠n0+1->W9.heap[k]?=W.heap[k]?)/\∀w,Below n0 w W->Below n0 w W9:=by
 have hb:W9.heap[n0+1]?=some (.cells #[v0,v1,v2] T (0,0)):=by
  rw [<- hW];simp [World.setCell,Array.getElem?_modify,hr]
 refine ⟨by simp [World.cell?,hb],by simp [World.cell?,hb],by simp [World.cell?,hb],fun k hk=>?_,fun w hl=>?_⟩
 ·rw [<- hW];exact (bH _ ⟨n0+1,2,none⟩ _ _ hk).trans ((bH _ ⟨n0+1,1,none⟩ _ _ hk).trans (bH _ ⟨n0+1,0,none⟩ _ _ hk))
 ·rw [<- hW];exact ((hl.setCell (by simp) _).setCell (by simp) _).setCell (by simp) _
def AtR (N:Prop) (U:List Int) (D:Option Int) (w:World) (e':Ending) (w':World):Prop:=
 EfR U D w e' w'\/(N/\U=[]/\D=none/\e' = .returned (.agg #[.map none,.int .i64 0,.bool false])/\Below w.heap.size w w')
theorem xX (b:Bdy) (bh:BH) (p:Int) (w:World) (H:BdAt w b bh) (hc:cntB b.blocks<=1000000000000) (hp : -9223372036854775808<=p/\p<=9223372036854775807) (hu:∀z∈usP b.blocks p,Sml z):
 Calls Tryz.prog 34 #[.agg (bdC b bh).toArray,.int .i64 p] w (AtR (locB b.blocks p=none) (usP b.blocks p) (dfP b.blocks p) w):=by
 obtain ⟨N,hN⟩:∃N:Prop,(locB b.blocks p=none)=N:=⟨_,rfl⟩;rw [hN];have HNN:=aF hN;clear hN;have HL:=aF (fun (W:World) (hb:Below w.heap.size w W)=>xDJ b bh p W (H.keep hb) hc hp);have HBLK:=aF H.blk;have hbl:=H.blk.le;have hbg:=H.blk.big;have HY:=aF (cQ w [Value.string b.name,.slice bh.A1 b.regions.length bh.c1,.slice bh.A2 b.outl.length bh.c2,.slice bh.A3 b.types.length bh.c3,.slice bh.A4 b.locals.length bh.c4,.int .i64 b.args,.slice bh.A5 b.blocks.length bh.c5] 28);clear H hc;have hal:Below w.heap.size w ((w.alloc (.cells (bdC b bh).toArray 28)).alloc (.cells #[.map none,.int .i64 0,.bool false] 77)):=((aX _ _).alloc (aY _) _).alloc (by simp) _
 have hr0:((w.alloc (.cells (bdC b bh).toArray 28)).alloc (.cells #[.map none,.int .i64 0,.bool false] 77)).heap[w.heap.size+1]?=some (.cells #[.map none,.int .i64 0,.bool false] 77 (0,0)):=by
  have:=heap_alloc_new (w.alloc (.cells (bdC b bh).toArray 28)) (.cells #[.map none,.int .i64 0,.bool false] 77);rwa [bI] at this
 have hyy:∀i v,(bdC b bh)[i]?=some v->((w.alloc (.cells (bdC b bh).toArray 28)).alloc (.cells #[.map none,.int .i64 0,.bool false] 77)).cell? ⟨w.heap.size,i,none⟩=some v:=fun i v hi=>cO ((aX _ _).alloc (aY _) _) (HY.out i v hi)
 have HAL:=aF hal;have HR0:=aF hr0;have HYY:=aF hyy;clear hal hr0 hyy HY;unfold bdC at *;cases hloc:locB b.blocks p with
 | none=>
   rw [iC hloc,sE hloc];have HN0:Hid N:=aF (by rw [<- HNN.out];exact hloc);rw [hloc] at HL;unfold lcV at HL;clear hloc hu;go_enter Tryz.func34,Tryz.ntmps34
   go_wp2_with (go_at_call 63;refine (HL.out _ HAL.out).mono ?_;rintro e' w1 ⟨rfl,hb1⟩;have HB1:=aF (HAL.out.trans (hb1.mono HAL.out.size));have HR1:=aF ((hb1.block _ (Array.getElem?_eq_some_iff.1 HR0.out).1).trans HR0.out);have x0:w1.cell? ⟨w.heap.size+1,0,none⟩=some (.map none):=(by simp [World.cell?,HR1.out]);have x1:w1.cell? ⟨w.heap.size+1,1,none⟩=some (.int .i64 0):=(by simp [World.cell?,HR1.out]);have x2:w1.cell? ⟨w.heap.size+1,2,none⟩=some (.bool false):=(by simp [World.cell?,HR1.out]);have xf:∀i,w1.frozen? ⟨w.heap.size+1,i,none⟩=false:=(fun i=>by simp [World.frozen?,HR1.out]);clear hb1)
   generalize hW9:((w1.setCell ⟨w.heap.size+1,0,none⟩ (.map none)).setCell ⟨w.heap.size+1,1,none⟩ (.int .i64 0)).setCell ⟨w.heap.size+1,2,none⟩ (.bool false)=W9;obtain ⟨v0,v1,v2,-,B9⟩:=st3 HR1.out _ _ _ hW9;have HB9:=aF (B9 _ HB1.out);clear hW9 B9;exact bodyPost_ret (v:= .agg #[.map none,.int .i64 0,.bool false]) (by simp [results,Tryz.results34,go_sem,v0,v1,v2]) rfl (.inr ⟨HN0.out,rfl,rfl,rfl,HB9.out⟩)
 | some ik=>
   obtain ⟨i,k⟩:=ik;obtain ⟨x,hx,hk,hi⟩:=mI hloc;rw [uR hloc hx] at hu ⊢;rw [xBS hloc hx];rw [hloc] at HL;unfold lcV at HL;obtain ⟨bb,oo,hA,hbb,hxx⟩:=HBLK.out.sl.at_ hi;obtain ⟨A1,c1,A2,c2,A3,c3,A4,c4,p0,p1,p2,p3,p4,p5,p6,hs1,hs2,hs3,-⟩:=eV hxx;rw [show b.blocks[i]=x from by rw [bD hi] at hx;injection hx] at p0 p1 p2 p3 p4 p5 p6 hs1 hs2 hs3;have HE:=aF (fun (W:World) (hb:Below w.heap.size w W)=>xDU x A1 A2 A3 A4 c1 c2 c3 c4 k W (hs1.keep RSt.keeps hb) (hs3.keep ROp.keeps hb) hu hk);rw [hA] at HL HAL HR0 HYY ⊢;unfold bkL at HE;have HP:=aF (bJ p0 (bJ p1 (bJ p2 (bJ p3 (bJ p4 (bJ p5 p6))))));have hki:(i:Int)<(b.blocks.length:Int):=by omega
   generalize usB x k=U at *;generalize dfB x k=D at *;clear hA hxx hs1 hs2 hs3 hloc hx hu p0 p1 p2 p3 p4 p5 p6;go_enter Tryz.func34,Tryz.ntmps34
   go_wp2_with (first
    | (go_at_call 64;refine (HE.out _ HB1.out).mono ?_;rintro e' w3 he3;unfold EfR at he3;obtain ⟨mb,d,hd,sl,rfl,hmb,ho3,hm3,hd3,hz3,hb3⟩:=he3;have hmb2:w.heap.size+1≠mb:=(by have:=(Array.getElem?_eq_some_iff.1 HR1.out).1;omega);have HB3:=aF (HB1.out.trans (hb3.mono HB1.out.size));have HR3:=aF ((hb3.block _ (Array.getElem?_eq_some_iff.1 HR1.out).1).trans HR1.out);have HO3:=aF ho3;have HM3:=aF hm3;have HD3:=aF hd3;have HZ3:=aF hz3;have hmw:w.heap.size<=mb:=(by have:=HB1.out.size;omega);clear y6 m0 m1 m2 m3 m4 m5 m6;have x0:w3.cell? ⟨w.heap.size+1,0,none⟩=some (.map none):=(by simp [World.cell?,HR3.out]);have x1:w3.cell? ⟨w.heap.size+1,1,none⟩=some (.int .i64 0):=(by simp [World.cell?,HR3.out]);have x2:w3.cell? ⟨w.heap.size+1,2,none⟩=some (.bool false):=(by simp [World.cell?,HR3.out]);have xf:∀i,w3.frozen? ⟨w.heap.size+1,i,none⟩=false:=(fun i=>by simp [World.frozen?,HR3.out]);clear hb3 hmb ho3 hm3 hd3 hz3)
    | (go_at_call 63;refine (HL.out _ HAL.out).mono ?_;rintro e' w1 ⟨rfl,hb1⟩;have HB1:=aF (HAL.out.trans (hb1.mono HAL.out.size));have HR1:=aF ((hb1.block _ (Array.getElem?_eq_some_iff.1 HR0.out).1).trans HR0.out);have y6:=cO hb1 (HYY.out 6 _ rfl);have m0:=cO HB1.out HP.out.1;have m1:=cO HB1.out HP.out.2.1;have m2:=cO HB1.out HP.out.2.2.1;have m3:=cO HB1.out HP.out.2.2.2.1;have m4:=cO HB1.out HP.out.2.2.2.2.1;have m5:=cO HB1.out HP.out.2.2.2.2.2.1;have m6:=cO HB1.out HP.out.2.2.2.2.2.2;clear hb1))
   generalize hW9:((w3.setCell ⟨w.heap.size+1,0,none⟩ (.map (some mb))).setCell ⟨w.heap.size+1,1,none⟩ (.int .i64 d)).setCell ⟨w.heap.size+1,2,none⟩ (.bool hd)=W9;obtain ⟨v0,v1,v2,g9,B9⟩:=st3 HR3.out _ _ _ hW9;have HB9:=aF (B9 _ HB3.out);have HO9:=aF (HO3.out.block (g9 mb (Ne.symm hmb2)));clear hW9 B9 g9;exact bodyPost_ret (v:= .agg #[.map (some mb),.int .i64 d,.bool hd]) (by simp [results,Tryz.results34,go_sem,v0,v1,v2]) rfl (.inl ⟨mb,d,hd,sl,rfl,hmw,HO9.out,HM3.out,HD3.out,HZ3.out,HB9.out⟩)
theorem AtR.df {N:Prop} {U:List Int} {D:Option Int} {w w':World} {e':Ending} (h:AtR N U D w e' w'):∃(m:Option Nat) (d:Int) (hd:Bool),e' = .returned (.agg #[.map m,.int .i64 d,.bool hd])/\dfV D = .tuple #[.int .i64 d,.bool hd]/\Below w.heap.size w w':=by
 rcases h with ⟨mb,d,hd,sl,rfl,_,_,_,h3,h4,hb⟩ | ⟨_,rfl,rfl,rfl,hb⟩
 ·refine ⟨_,d,hd,rfl,?_,hb⟩;cases hd with
  | true=>rw [h3];rfl
  | false=>rw [h3,h4 rfl];rfl
 ·exact ⟨_,0,false,rfl,rfl,hb⟩
theorem xM (b:Bdy) (bh:BH) (p:Int) (w:World) (H:BdAt w b bh) (hc:cntB b.blocks<=1000000000000) (hp : -9223372036854775808<=p/\p<=9223372036854775807) (hu:∀z∈usP b.blocks p,Sml z):
 Calls Tryz.prog 11 #[.agg (bdC b bh).toArray,.int .i64 p] w fun e' w'=>e' = .returned (dfV (dfP b.blocks p))/\Below w.heap.size w w':=by
 have HT:=aF (fun (W:World) (hb:Below w.heap.size w W)=>xX b bh p W (H.keep hb) hc hp hu);obtain ⟨R,hR⟩:∃R,dfV (dfP b.blocks p)=R:=⟨_,rfl⟩;rw [hR];have HR:=aF hR;clear H hc hR hu;unfold bdC at *;have hal:Below w.heap.size w (w.alloc (.cells ([Value.string b.name,.slice bh.A1 b.regions.length bh.c1,.slice bh.A2 b.outl.length bh.c2,.slice bh.A3 b.types.length bh.c3,.slice bh.A4 b.locals.length bh.c4,.int .i64 b.args,.slice bh.A5 b.blocks.length bh.c5]).toArray 28)):=(aX _ _).alloc (aY _) _;have HAL:=aF hal;clear hal;go_enter Tryz.func11,Tryz.ntmps11
 go_wp2_with (go_at_call 34;refine (HT.out _ HAL.out).mono ?_;rintro e' w1 h1;obtain ⟨mv,d,hd,rfl,h2,hb1⟩:=h1.df;have H2:=aF h2;have HB1:=aF (HAL.out.trans (hb1.mono HAL.out.size));clear h1 h2 hb1)
 have hS:(w1.alloc (.cells #[.map mv,.int .i64 d,.bool hd] 77)).cell? ⟨w1.heap.size,1,none⟩=some (.int .i64 d)/\(w1.alloc (.cells #[.map mv,.int .i64 d,.bool hd] 77)).cell? ⟨w1.heap.size,2,none⟩=some (.bool hd):=⟨cQ w1 [.map mv,.int .i64 d,.bool hd] 77 1 _ rfl,cQ w1 [.map mv,.int .i64 d,.bool hd] 77 2 _ rfl⟩;have HB2:=aF (HB1.out.alloc HB1.out.size (.cells #[.map mv,.int .i64 d,.bool hd] 77));generalize hW2:w1.alloc (.cells #[.map mv,.int .i64 d,.bool hd] 77)=W2 at hS HB2 ⊢;have hS:W2.drew.cell? ⟨w1.heap.size,1,none⟩=some (.int .i64 d)/\W2.drew.cell? ⟨w1.heap.size,2,none⟩=some (.bool hd):=hS;clear hW2;refine cT (S:=fun X=>X.cell? ⟨w1.heap.size,1,none⟩=some (.int .i64 d)/\X.cell? ⟨w1.heap.size,2,none⟩=some (.bool hd)) [0,1,4,2,3,5] (by kernel_rfl) ?_;(iterate 6 (refine cR (v:=?_) ?_ hS ?_;rotate_left;(next=>(rintro X ⟨hX,hY⟩;(try simp only [aI]);go_simp;rfl));simp only [aM]));refine cZ ?_;go_wp2_with fail
 go_ret2
 exact ⟨by rw [<- HR.out,H2.out];rfl,HB2.out.drew⟩
end
section
open Go Go.RowKit Go.Maps Go.Sort Go.Shelf
theorem xAO {w:World} {b n:Nat} {sl:List Int} {D:DataW Unit} (hm:w.ownsMap Tryz.prog 3 (plainElem Tryz.prog 4) b n D) (h3:∀kl,Maps.has D kl=i64F (inF sl) kl):(intKeys D).Nodup/\∀x,x∈intKeys D↔x∈sl:=by
 obtain ⟨es,rfl,ha,hkl⟩:=hm.entries law3
 have hk:∀p∈es,∃x∈sl,p.1=Lit.int .i64 x:=fun p hp=>by
  have h4:Maps.has (.map es) p.1=true:=by
   unfold Maps.has;rw [List.any_eq_true];refine ⟨p,hp,?_⟩;have:=hkl p hp;revert this
   cases p.1 <;> simp [Lit.sameKey,WideAt.IsKeyLit]
  rw [h3] at h4;unfold i64F at h4;split at h4
  ·rename_i x hx;exact ⟨x,by simpa [inF] using h4,hx⟩
  ·cases h4
 constructor
 ·unfold intKeys List.Nodup;rw [List.pairwise_map];refine List.Pairwise.imp_of_mem ?_ ha;intro p q hp hq hne e;obtain ⟨x,_,ex⟩:=hk p hp;obtain ⟨y,_,ey⟩:=hk q hq;rw [ex,ey] at e hne;exact hne (congrArg _ e)
 ·intro x;unfold intKeys;rw [List.mem_map];constructor
  ·rintro ⟨p,hp,e⟩;obtain ⟨y,hy,ey⟩:=hk p hp;rw [ey] at e;exact e ▸ hy
  ·intro hx;have h4:Maps.has (.map es) (Lit.int .i64 x)=true:=by rw [h3];simp [i64F,inF,hx]
   unfold Maps.has at h4;rw [List.any_eq_true] at h4;obtain ⟨p,hp,e⟩:=h4;obtain ⟨y,hy,ey⟩:=hk p hp;rw [ey] at e;simp [Lit.sameKey] at e;exact ⟨p,hp,by rw [ey,e];rfl⟩
theorem zE {ks:List Int} {sl:List Int} (h1:ks.Nodup) (h2:∀x,x∈ks↔x∈sl):Srt (ks.mergeSort (fun x y=>decide (x<=y))) (fun z=>z∈sl):=by
 have hp:=List.mergeSort_perm ks (fun x y=>decide (x<=y));refine ⟨?_,fun x=>(hp.mem_iff).trans (h2 x)⟩;have hs:(ks.mergeSort (fun x y=>decide (x<=y))).Pairwise (fun a b=>decide (a<=b)=true):=List.pairwise_mergeSort (fun a b c h k=>by simp at *;omega) (fun a b=>by simp;omega) ks;have hn:(ks.mergeSort (fun x y=>decide (x<=y))).Nodup:=hp.nodup_iff.2 h1;exact (hs.and hn).imp (fun ⟨a,b⟩=>by simp at a;omega)
theorem xBI (m:Nat):AnyZI.SortsIn Tryz.prog Tryz.sortedZ_ren Fence.wide m:=
 ⟨fun blk off cap ss W hH hblk hsz=>callsIn_wide.2 (AnyM.slices_Sort_int Tryz.sortZ blk off cap ss W hH hblk hsz),
  fun p cap W=>callsIn_wide.2 (AnyM.slices_Sort_int_none Tryz.sortZ p cap W)⟩
theorem rV (mb:Option Nat) (W:World):Calls Tryz.prog 37 #[.map mb] W fun e w'=>e = .returned (.func (.func 67) #[] #[.pointer (some ⟨W.heap.size,0,none⟩)])/\w'=W.alloc (.cells #[.map mb] 75):=
 (callsIn_wide (n:=5)).1 (AnyZI.keys_in Tryz.keysZ Fence.wide 5 trivial rfl mb W)
theorem lA (W:World) (b n:Nat) (sl:List Int) (ho:OwnI W b n sl) (hs:∀z∈sl,Sml z):
 Calls Tryz.prog 36 #[.func (.func 67) #[] #[.pointer (some ⟨W.heap.size,0,none⟩)]] (W.alloc (.cells #[.map (some b)] 75)) fun e w'=>∃A c s,e = .returned (.slice A s.length c)/\Srt s (fun z=>z∈sl)/\Slc 1 RInt w' A c s/\(∀a,A=some a->W.heap.size<=a.block)/\Below W.heap.size W w':=by
 have ho2:=ho.tight hs;have hbl:=ho.lt;obtain ⟨D,hown,h2,h3⟩:=ho2
 have hsz:Maps.size D<=1000000:=by
  obtain ⟨es,clock,hb,F,hsz,rfl⟩:=hown;change (List.foldr DataW.insert [] _).length<=_;rw [length_sorted];simpa using hsz
 have hseq:SeqGives Fence.wide 2 Tryz.prog 67 #[.pointer (some ⟨W.heap.size,0,none⟩)] encZ (fun ss=>ss.Perm (intKeys D)) (Maps.size D) (W.alloc (.cells #[.map (some b)] 75)):=
  AnyZI.keys_gives (ρ := Tryz.keysZ_ren) { Tryz.keysZ with } Fence.wide _ trivial rfl (by omega) W.heap.size b 1000000 D _ (by simp) (by simp) (by
   obtain ⟨es,clock,hb,Ft,hs,hD⟩:=hown
   exact ⟨es,clock,(Below.heap_alloc _ _ b hbl).trans hb,Ft,hs,hD⟩)
 have cS:=AnyZI.sorted_in Tryz.sortedZ Fence.wide 5 trivial trivial trivial trivial rfl (by omega) (xBI _) (enters_of Tryz.func66 (by kernel_rfl) rfl) 67 #[.pointer (some ⟨W.heap.size,0,none⟩)] trivial (enters_of Tryz.func67 (by kernel_rfl) rfl) _ _ (by unfold maxLen;omega) (by omega) _ hseq;change CallsIn _ _ Tryz.prog 36 _ _ _ at cS;refine ((callsIn_wide (n:=5)).1 cS).mono ?_;rintro e w' ⟨v,ss,rfl,hS,hrow,hnil,hb⟩;obtain ⟨hk1,hk2⟩:=xAO hown h3;have hsr:=zE (hS.nodup_iff.2 hk1) (fun x=>(hS.mem_iff).trans (hk2 x));obtain ⟨A,c,rfl,hs1,hlo⟩:=fD (R:=RInt) (enc:=Value.int .i64) (fun _ _ _ _ _ h=>h) hrow (by simp);refine ⟨A,c,_,by simp,hsr,hs1,fun a ha=>?_,((aX _ W).alloc (aY _) _).trans (hb.mono (by simp))⟩;have:=(hlo a ha).1;simp at this;omega
theorem sX (W:World):Calls Tryz.prog 36 #[.func (.func 67) #[] #[.pointer (some ⟨W.heap.size,0,none⟩)]] (W.alloc (.cells #[.map none] 75)) fun e w'=>e = .returned (.slice none 0 0)/\Below W.heap.size W w':=by
 have hseq:SeqGives Fence.wide 2 Tryz.prog 67 #[.pointer (some ⟨W.heap.size,0,none⟩)] encZ (fun ss:List Int=>ss=[]) 0 (W.alloc (.cells #[.map none] 75)):=
  AnyZI.keys_gives_nil (ρ := Tryz.keysZ_ren) { Tryz.keysZ with } Fence.wide _ trivial rfl W.heap.size _ (by simp) (by simp)
 have cS:=AnyZI.sorted_in Tryz.sortedZ Fence.wide 5 trivial trivial trivial trivial rfl (by omega) (xBI _) (enters_of Tryz.func66 (by kernel_rfl) rfl) 67 #[.pointer (some ⟨W.heap.size,0,none⟩)] trivial (enters_of Tryz.func67 (by kernel_rfl) rfl) _ _ (by unfold maxLen;omega) (by omega) _ hseq;change CallsIn _ _ Tryz.prog 36 _ _ _ at cS;refine ((callsIn_wide (n:=5)).1 cS).mono ?_;rintro e w' ⟨v,ss,rfl,rfl,hrow,hnil,hb⟩;obtain rfl:v = .slice none 0 0:=hnil.2 rfl;exact ⟨rfl,((aX _ W).alloc (aY _) _).trans (hb.mono (by simp))⟩
end
section
open Go Go.RowKit Go.Maps
def SetR (U:List Int) (w:World) (m:Option Nat) (w':World):Prop:=
 match m with
 | none=>U=[]
 | some mb=>∃sl,OwnI w' mb 1000000 sl/\(∀z,z∈sl↔z∈U)/\w.heap.size<=mb
theorem AtR.us {N:Prop} {U:List Int} {D:Option Int} {w w':World} {e':Ending} (h:AtR N U D w e' w'):∃(m:Option Nat) (d:Int) (hd:Bool),e' = .returned (.agg #[.map m,.int .i64 d,.bool hd])/\SetR U w m w'/\Below w.heap.size w w':=by
 rcases h with ⟨mb,d,hd,sl,rfl,h0,h1,h2,_,_,hb⟩ | ⟨_,rfl,rfl,rfl,hb⟩
 ·exact ⟨some mb,d,hd,rfl,⟨sl,h1,h2,h0⟩,hb⟩
 ·exact ⟨none,0,false,rfl,rfl,hb⟩
theorem vL {U:List Int} {w W:World} {m:Option Nat} (h:SetR U w m W) (hu:∀z∈U,Sml z):
 Calls Tryz.prog 36 #[.func (.func 67) #[] #[.pointer (some ⟨W.heap.size,0,none⟩)]] (W.alloc (.cells #[.map m] 75)) fun e w'=>∃A c s,e = .returned (.slice A s.length c)/\Srt s (fun z=>z∈U)/\Slc 1 RInt w' A c s/\(∀a,A=some a->W.heap.size<=a.block)/\Below W.heap.size W w':=by
 cases m with
 | none=>
   have h:U=[]:=h;subst h;refine (sX W).mono ?_;rintro e w' ⟨rfl,hb⟩;exact ⟨none,0,[],rfl,srt_nil.iff fun z=>by simp,iI _,fun a h=>(by cases h),hb⟩
 | some mb=>
   obtain ⟨sl,h1,h2,_⟩:=h;refine (lA W mb _ sl h1 (fun z hz=>hu z ((h2 z).1 hz))).mono ?_;rintro e w' ⟨A,c,s,rfl,g1,g2,g3,hb⟩;exact ⟨A,c,s,rfl,g1.iff h2,g2,g3,hb⟩
theorem uQ (b:Bdy) (bh:BH) (p:Int) (w:World) (H:BdAt w b bh) (hc:cntB b.blocks<=1000000000000) (hp : -9223372036854775808<=p/\p<=9223372036854775807) (hu:∀z∈usP b.blocks p,Sml z):
 Calls Tryz.prog 14 #[.agg (bdC b bh).toArray,.int .i64 p] w fun e' w'=>∃A c s,e' = .returned (.slice A s.length c)/\Srt s (fun z=>z∈usP b.blocks p)/\Slc 1 RInt w' A c s/\Below w.heap.size w w':=by
 have HT:=aF (fun (W:World) (hb:Below w.heap.size w W)=>xX b bh p W (H.keep hb) hc hp hu);have HU:=aF hu;clear H hc hu;unfold bdC at *;have hal:Below w.heap.size w (w.alloc (.cells ([Value.string b.name,.slice bh.A1 b.regions.length bh.c1,.slice bh.A2 b.outl.length bh.c2,.slice bh.A3 b.types.length bh.c3,.slice bh.A4 b.locals.length bh.c4,.int .i64 b.args,.slice bh.A5 b.blocks.length bh.c5]).toArray 28)):=(aX _ _).alloc (aY _) _;have HAL:=aF hal;clear hal;have hfd:∀(m:Option Nat) (d:Int) (hd:Bool) (W:World),(Instr.field 77 (.agg #[.map m,.int .i64 d,.bool hd]) 0).run Tryz.prog W = .ok (.map m) W:=fun m d hd W=>by rfl
 go_enter Tryz.func14,Tryz.ntmps14
 go_wp2_with (first
  | (go_at_call 34;refine (HT.out _ HAL.out).mono ?_;rintro e' w1 h1;obtain ⟨mv,d,hd,rfl,h2,hb1⟩:=h1.us;have H2:=aF h2;have HB1:=aF (HAL.out.trans (hb1.mono HAL.out.size));clear h1 h2 hb1)
  | (go_at_call 37;refine (rV _ _).mono ?_;rintro e' w2 ⟨rfl,rfl⟩)
  | (go_at_call 36;refine (vL H2.out HU.out).mono ?_;rintro e' w3 ⟨A,c,s,rfl,g1,g2,-,hb3⟩))
 go_ret;exact ⟨A,c,s,rfl,g1,g2,HB1.out.trans (hb3.mono HB1.out.size)⟩
theorem pV (b:Bdy) (bh:BH) (w:World) (H:BdAt w b bh) (hz:∀x∈b.blocks,x.term.name.size<=9223372036854775807)
 (hdecl:∀W,Below w.heap.size w W->Calls Tryz.prog 60 #[.agg (bdC b bh).toArray] W fun e' w'=>e' = .returned (.int .i64 (declC b))/\Below W.heap.size W w')
 (hstm:declC b=0->∀W,Below w.heap.size w W->∀(s:Stm) (A0 A B:Option Addr) (c0 c d:Nat),Slc 2 RPj w A0 c0 s.place.proj->Slc 2 RPj w A c s.rv.place.proj->Slc 4 ROp w B d s.rv.args->
   Calls Tryz.prog 61 #[.agg (bdC b bh).toArray,.agg (stC s A0 c0 A c B d).toArray] W fun e' w'=>e' = .returned (.int .i64 (stE b s))/\Below W.heap.size W w')
 (htm:declC b=0->∀W,Below w.heap.size w W->∀(t:Trm) (A B C:Option Addr) (c d f:Nat),Slc 1 RInt w A c t.targets->Slc 4 ROp w B d t.args->Slc 2 RPj w C f t.place.proj->t.name.size<=9223372036854775807->
   Calls Tryz.prog 62 #[.agg (bdC b bh).toArray,.agg (tmC t A c B d C f).toArray] W fun e' w'=>e' = .returned (.int .i64 (tmE b t))/\Below W.heap.size W w'):
 Calls Tryz.prog 33 #[.agg (bdC b bh).toArray] w fun e' w'=>e' = .returned (.int .i64 (chkB b))/\Below w.heap.size w w':=by
 have HZ:=aF hz;have HD:=aF hdecl;have HST:=aF hstm;have HTM:=aF htm;have HBLK:=aF H.blk;have hbl:=H.blk.le;have hbg:=H.blk.big;obtain ⟨R,hR⟩:∃R,chkB b=R:=⟨_,rfl⟩;rw [hR];have HR:Hid (R=if declC b=0 then bksE b b.blocks else declC b):=aF hR.symm;have HNB:=aF (fun h=>(eN (b:=b) h).nblk.1);clear hR H hdecl hstm htm hz;unfold bdC at *;by_cases hd:declC b=0
 case neg=>
  have HF:Hid (R=declC b):=aF (by rw [HR.out,aZ hd]);generalize declC b=de at HD HF hd;have e1:(de != 0)=true:=by simp [hd]
  clear HR HST HTM HNB hd;go_enter Tryz.func33,Tryz.ntmps33
  go_wp2_with (go_at_call 60;refine (HD.out _ ((aX _ _).alloc (aY _) _)).mono ?_;rintro e' w1 ⟨rfl,hb1⟩;have HB:=aF (((aX _ _).alloc (aY _) _).trans (hb1.mono ((aX _ _).alloc (aY _) _).size));clear hb1)
  go_ret;exact ⟨by rw [HF.out];rfl,HB.out⟩
 case pos=>
 have HF:Hid (R=bksE b b.blocks):=aF (by rw [HR.out,bA hd]);have HSM:=aF (HST.out hd);have HTT0:=aF (HTM.out hd);obtain ⟨bb,oo,hA5,hbb,hel⟩:=HBLK.out.sl (HNB.out hd);have HEL:=aF hel;rw [hd] at HD;clear HR HST HTM HNB hd hel;rw [hA5] at HD HSM HTT0 ⊢;have HCW:=aF (cQ w [Value.string b.name,.slice bh.A1 b.regions.length bh.c1,.slice bh.A2 b.outl.length bh.c2,.slice bh.A3 b.types.length bh.c3,.slice bh.A4 b.locals.length bh.c4,.int .i64 b.args,.slice (some ⟨bb,oo,none⟩) b.blocks.length bh.c5] 28);go_enter Tryz.func33,Tryz.ntmps33
 go_wp2_with (go_at_call 60;refine (HD.out _ ((aX _ _).alloc (aY _) _)).mono ?_;rintro e' w1 ⟨rfl,hb1⟩;have HB:=aF (((aX _ _).alloc (aY _) _).trans (hb1.mono ((aX _ _).alloc (aY _) _).size));have HC1:=aF (cP HCW.out hb1);have hsz1:w.heap.size<w1.heap.size:=bN (by simp) hb1.size;clear hb1)
 go_loopg [4] b.blocks.length (fun gk i wr=>∃k:Nat,gk=b.blocks.length - k/\k<=b.blocks.length/\i = .int .i64 k/\Hid (aA (bdM b bh.A1 bh.c1 bh.A2 bh.c2 bh.A3 bh.c3 bh.A4 bh.c4 (some ⟨bb,oo,none⟩) bh.c5 []) wr w.heap.size)/\Hid (Below w.heap.size w wr)/\w.heap.size<wr.heap.size/\Hid (R=bksE b (b.blocks.drop k)))
 case atStart=>exact ⟨0,by omega,by omega,rfl,HC1,HB,hsz1,HF⟩
 case round=>
  clear HC1 HB HF HCW;obtain ⟨k,hgk,hk,rfl,HCC,HB3,hlw3,hr⟩:=hrel;obtain ⟨y0,y1,y2,y3,y4,y5,y6⟩:=aS HCC.out;by_cases hlt:k<b.blocks.length
  ·have hd:=cV hlt;have hx:=HEL.out k _ (bD hlt);have hxz:=HZ.out _ (bM hlt);obtain ⟨x,hxx⟩:∃x,b.blocks[k]=x:=⟨_,rfl⟩;rw [hxx] at hd hx hxz;obtain ⟨A1,c1,A2,c2,A3,c3,A4,c4,p0,p1,p2,p3,p4,p5,p6,hs1,hs2,hs3,hs4⟩:=eV hx;have HQ:Hid (R=if bkE b x=0 then bksE b (b.blocks.drop (k+1)) else bkE b x):=aF (by rw [hr.out,hd,bksE]);have HS1:=aF hs1;have hl1:=hs1.le;have hg1:=hs1.big;have HTT:=aF (fun W hb=>HTT0.out W hb x.term A2 A3 A4 c2 c3 c4 hs2 hs3 hs4 hxz);unfold tmC at HTT;replace p0:=cO HB3.out p0;replace p1:=cO HB3.out p1;replace p2:=cO HB3.out p2;replace p3:=cO HB3.out p3;replace p4:=cO HB3.out p4;replace p5:=cO HB3.out p5;replace p6:=cO HB3.out p6;clear hd hx hxx hr hs1 hs2 hs3 hs4 hxz;by_cases hln:65535<x.stmts.length
   ·have HF:Hid (R=15):=aF (by rw [HQ.out];unfold bkE;rw [bA hln];rfl);clear HQ;go_wp2_with fail
    go_ret;exact ⟨by rw [HF.out];rfl,HB3.out.alloc (Nat.le_of_lt hlw3) _⟩
   have HQ2:Hid (R=if stsE b (x.stmts.drop 0)=0 then (if tmE b x.term=0 then bksE b (b.blocks.drop (k+1)) else tmE b x.term) else stsE b (x.stmts.drop 0)):=aF (by
    rw [HQ.out,bW];unfold bkE;rw [aZ hln]
    by_cases h:stsE b x.stmts=0 <;> simp [h])
   have HBK:=aF (cQ wr (bkL x A1 c1 A2 c2 A3 c3 A4 c4) 55);have HCC2:Hid (∀i v,[Value.string b.name,.slice bh.A1 b.regions.length bh.c1,.slice bh.A2 b.outl.length bh.c2,.slice bh.A3 b.types.length bh.c3,.slice bh.A4 b.locals.length bh.c4,.int .i64 b.args,.slice (some ⟨bb,oo,none⟩) b.blocks.length bh.c5][i]?=some v->(wr.alloc (.cells (bkL x A1 c1 A2 c2 A3 c3 A4 c4).toArray 55)).cell? ⟨w.heap.size,i,none⟩=some v):=aF (fun i v hi=>cO ((aX _ _).alloc (aY _) _) (HCC.out i v hi));have HB4:=aF (HB3.out.alloc (Nat.le_of_lt hlw3) (.cells (bkL x A1 c1 A2 c2 A3 c3 A4 c4).toArray 55));obtain ⟨gx,hgx⟩:∃g,wr.heap.size=g:=⟨_,rfl⟩;clear HQ;go_wp2_with fail
   go_loopg [6] x.stmts.length (fun gj i wr2=>∃j:Nat,gj=x.stmts.length - j/\j<=x.stmts.length/\i = .int .i64 j/\Hid (aA (bdM b bh.A1 bh.c1 bh.A2 bh.c2 bh.A3 bh.c3 bh.A4 bh.c4 (some ⟨bb,oo,none⟩) bh.c5 []) wr2 w.heap.size)/\Hid (aA (bkL x A1 c1 A2 c2 A3 c3 A4 c4) wr2 wr.heap.size)/\Hid (Below w.heap.size w wr2)/\wr.heap.size+1<=wr2.heap.size/\Hid (R=if stsE b (x.stmts.drop j)=0 then (if tmE b x.term=0 then bksE b (b.blocks.drop (k+1)) else tmE b x.term) else stsE b (x.stmts.drop j)))
   case atStart=>exact ⟨0,by omega,by omega,rfl,HCC2,HBK,HB4,by simp,HQ2⟩
   case round=>
    clear HCC2 HBK HB4 HQ2 p0 p1 p2 p3 p4 p5 p6 HCC HB3 y0 y1 y2 y3 y4 y5 y6;obtain ⟨j,hgj,hj,rfl,HCC,HBK,HB5,hsz5,hr⟩:=hrel;have hlw5:=Nat.lt_of_succ_le hsz5;have hlw6:=Nat.lt_trans hlw3 hlw5;rw [hgx] at HBK hlw5 hsz5;by_cases hjl:j<x.stmts.length
    ·have hd:=cV hjl;obtain ⟨b3,o3,hA1,hb3,hy⟩:=HS1.out.sl.at_ hjl;have HA1:=aF hA1;clear hA1;obtain ⟨s,hss⟩:∃s,x.stmts[j]=s:=⟨_,rfl⟩;rw [hss] at hd hy;obtain ⟨B0,d0,B1,d1,B2,d2,m0,m1,m2,m3,m4,m5,m6,m7,m8,m9,m10,hp0,hp,hl⟩:=iY hy;have HSS:=aF (fun W hb=>HSM.out W hb s B0 B1 B2 d0 d1 d2 hp0 hp hl);unfold stC at HSS
     have hmm:∀X,Below w.heap.size w X->∀i v,(stC s B0 d0 B1 d1 B2 d2)[i]?=some v->X.cell? ⟨b3,o3+j * 11+i,none⟩=some v:=fun X hX i v hi=>by
      refine cO hX ?_;match i,hi with
      | 0,hi=>simp [stC] at hi;subst hi;exact m0
      | 1,hi=>simp [stC] at hi;subst hi;exact m1
      | 2,hi=>simp [stC] at hi;subst hi;exact m2
      | 3,hi=>simp [stC] at hi;subst hi;exact m3
      | 4,hi=>simp [stC] at hi;subst hi;exact m4
      | 5,hi=>simp [stC] at hi;subst hi;exact m5
      | 6,hi=>simp [stC] at hi;subst hi;exact m6
      | 7,hi=>simp [stC] at hi;subst hi;exact m7
      | 8,hi=>simp [stC] at hi;subst hi;exact m8
      | 9,hi=>simp [stC] at hi;subst hi;exact m9
      | 10,hi=>simp [stC] at hi;subst hi;exact m10
      | i+11,hi=>simp [stC] at hi
     have HMM:=aF hmm
     have HQ3:Hid ((stE b s=0->R=if stsE b (x.stmts.drop (j+1))=0 then (if tmE b x.term=0 then bksE b (b.blocks.drop (k+1)) else tmE b x.term) else stsE b (x.stmts.drop (j+1)))/\(stE b s≠0->R=stE b s)):=aF (by
      rw [hr.out,hd];constructor
      ·intro h;rw [show stsE b (s :: x.stmts.drop (j+1))=stsE b (x.stmts.drop (j+1)) from by rw [stsE,bA h]]
      ·intro h;rw [show stsE b (s :: x.stmts.drop (j+1))=stE b s from by rw [stsE,aZ h],aZ h])
     generalize stE b s=es at HSS HQ3;clear hd hy hss hp0 hp hl hr hmm m0 m1 m2 m3 m4 m5 m6 m7 m8 m9 m10;have k0:=HBK.out 0 _ rfl;go_wp2_with fail
     have hS:(aA (bdM b bh.A1 bh.c1 bh.A2 bh.c2 bh.A3 bh.c3 bh.A4 bh.c4 (some ⟨bb,oo,none⟩) bh.c5 []) wr.drew w.heap.size)/\(aA (bkL x A1 c1 A2 c2 A3 c3 A4 c4) wr.drew gx)/\Below w.heap.size w wr.drew:=⟨HCC.out,HBK.out,HB5.out.drew⟩;clear k0;refine cT (S:=fun X=>(aA (bdM b bh.A1 bh.c1 bh.A2 bh.c2 bh.A3 bh.c3 bh.A4 bh.c4 (some ⟨bb,oo,none⟩) bh.c5 []) X w.heap.size)/\(aA (bkL x A1 c1 A2 c2 A3 c3 A4 c4) X gx)/\Below w.heap.size w X) [0,1,2,3,4,5,6,7] (by kernel_rfl) ?_;(iterate 6 (refine cR (v:=?_) ?_ hS ?_;rotate_left;(next=>(rintro X ⟨hX,hY,hZ⟩;obtain ⟨s0,s1,s2,s3,s4,s5,s6⟩:=aS hX;have t0:=hY 0 _ rfl;rw [HA1.out] at t0;have m0:=HMM.out X hZ 0 _ rfl;have m1:=HMM.out X hZ 1 _ rfl;have m2:=HMM.out X hZ 2 _ rfl;have m3:=HMM.out X hZ 3 _ rfl;have m4:=HMM.out X hZ 4 _ rfl;have m5:=HMM.out X hZ 5 _ rfl;have m6:=HMM.out X hZ 6 _ rfl;have m7:=HMM.out X hZ 7 _ rfl;have m8:=HMM.out X hZ 8 _ rfl;have m9:=HMM.out X hZ 9 _ rfl;have m10:=HMM.out X hZ 10 _ rfl;rw [Nat.add_zero] at m0;(try simp only [aI]);go_simp;rfl));simp only [aM]));(refine cY (fun K1 hK1=>?_);simp only [aM];rw [bA (by rfl)];go_simp);refine (HSS.out _ hS.2.2).mono ?_;rintro e' w5 ⟨rfl,hb5⟩;replace hS:=bJ (cP hS.1 hb5) (bJ (cP hS.2.1 hb5) (hS.2.2.trans (hb5.mono hS.2.2.size)));have HS5:=aF hS;have hsz7:wr.heap.size<=w5.heap.size:=hb5.size;clear hb5;refine hK1.out _ _ (fun _=>hS) ?_;clear hK1;((refine cR (v:=?_) ?_ hS ?_;rotate_left;(next=>(rintro X -;(try simp only [aI]);go_simp;rfl));simp only [aM]))
     refine cZ ?_;clear hS;by_cases he:es=0
     ·subst he;have HF:=aF (HQ3.out.1 rfl);clear HQ3;go_wp2_with fail
      go_roundg (x.stmts.length - (j+1))
      case measure=>omega
      case rel=>exact ⟨j+1,rfl,by omega,by go_num,aF HS5.out.1,aF (by rw [hgx];exact HS5.out.2.1),aF HS5.out.2.2,by omega,HF⟩
     ·have HF:=aF (HQ3.out.2 he);have e1:(es != 0)=true:=by simp [he]
      clear HQ3 he;go_wp2_with fail
      go_ret;exact ⟨by rw [HF.out];rfl,HS5.out.2.2⟩
    ·have HQ3:Hid (R=if tmE b x.term=0 then bksE b (b.blocks.drop (k+1)) else tmE b x.term):=aF (by rw [hr.out,bE (by omega:x.stmts.length<=j)];rfl);obtain ⟨y0,y1,y2,y3,y4,y5,y6⟩:=aS HCC.out;obtain ⟨k0,k1,k2,k3,k4,k5,k6⟩:=aS HBK.out;generalize tmE b x.term=et at HTT HQ3;clear hr;by_cases he:et=0
     ·subst he;have HF:Hid (R=bksE b (b.blocks.drop (k+1))):=aF (by rw [HQ3.out];rfl);clear HQ3;go_wp2_with (go_at_call 62;refine (HTT.out _ HB5.out).mono ?_;rintro e' w5 ⟨rfl,hb5⟩;have HB7:=aF (HB5.out.trans (hb5.mono HB5.out.size));have HC7:=aF (cP HCC.out hb5);have hsz7:=hb5.size;clear hb5)
      go_roundg (b.blocks.length - (k+1))
      case measure=>omega
      case rel=>exact ⟨k+1,rfl,by omega,by go_num,HC7,HB7,by omega,HF⟩
     ·have HF:Hid (R=et):=aF (by rw [HQ3.out,aZ he]);have e1:(et != 0)=true:=by simp [he]
      clear HQ3 he;go_wp2_with (go_at_call 62;refine (HTT.out _ HB5.out).mono ?_;rintro e' w5 ⟨rfl,hb5⟩;have HB7:=aF (HB5.out.trans (hb5.mono HB5.out.size));clear hb5)
      go_ret;exact ⟨by rw [HF.out];rfl,HB7.out⟩
  ·have HF:Hid (R=0):=aF (by rw [hr.out,bE (by omega:b.blocks.length<=k)];rfl);clear hr;go_wp2_with fail
   go_ret;exact ⟨by rw [HF.out];rfl,HB3.out⟩
end
end Go.Proofs.YtcfchohkmkilpaaGreatDoor
