/-
  Parts of the proof: V45 V42D V42L V42T V42 V43 V44 V47 Set.
-/
import Derived.Test.YtcfchohkmkilpaaGreatDoorLP0
import Derived.Test.YtcfchohkmkilpaaGreatDoorLP8
import Derived.Test.YtcfchohkmkilpaaGreatDoorLP5
import Derived.Maps.RangeWalk
import Derived.Lib.SlKeysI
namespace Go.Proofs.YtcfchohkmkilpaaGreatDoor
set_option maxRecDepth 100000
set_option maxHeartbeats 16000000
section
open Go Go.RowKit
def shapeE (r:Rvl):Int:=if r.kind<0\/4<r.kind then 14 else if unusedR r=false then 2 else 0
theorem tW (r:Rvl) (A B:Option Addr) (c d:Nat) (w:World):
 Calls Tryz.prog 96 #[.agg (rvC r A c B d).toArray] w fun e' w'=>e' = .returned (.bool (blankR r))/\Below w.heap.size w w':=by
 have HZ:=aF (fun W=>dQ r.place A c W);obtain ⟨q2,hq2⟩:∃q,(r.kind == 0)=q:=⟨_,rfl⟩;obtain ⟨q3,hq3⟩:∃q,(r.op == 0)=q:=⟨_,rfl⟩;obtain ⟨q4,hq4⟩:∃q,((r.args.length:Int) == 0)=q:=⟨_,rfl⟩;obtain ⟨q5,hq5⟩:∃q,(r.reg == 0)=q:=⟨_,rfl⟩;obtain ⟨q6,hq6⟩:∃q,r.mu=q:=⟨_,rfl⟩;obtain ⟨q7,hq7⟩:∃q,zeroP r.place=q:=⟨_,rfl⟩
 have HBL:Hid (blankR r=(q2 && q3 && q4 && q5 && !q6 && q7)):=aF (by
  unfold blankR;rw [<- hq2,<- hq3,<- hq4,<- hq5,<- hq6,<- hq7,eP]
  rfl)
 rw [hq7] at HZ;generalize blankR r=R at HBL ⊢;clear hq7;unfold rvC;rcases (show q2=false\/(q2=true/\q3=false)\/(q2=true/\q3=true/\q5=false)\/(q2=true/\q3=true/\q5=true/\q6=true)\/(q2=true/\q3=true/\q5=true/\q6=false/\q7=false)\/(q2=true/\q3=true/\q5=true/\q6=false/\q7=true) by cases q2 <;> cases q3 <;> cases q5 <;> cases q6 <;> cases q7 <;> simp) with rfl | ⟨rfl,rfl⟩ | ⟨rfl,rfl,rfl⟩ | ⟨rfl,rfl,rfl,rfl⟩ | ⟨rfl,rfl,rfl,rfl,rfl⟩ | ⟨rfl,rfl,rfl,rfl,rfl⟩
 all_goals
  go_enter Tryz.func96,Tryz.ntmps96
  go_wp2_with (go_at_call 95;refine (HZ.out _).mono ?_;rintro e' w1 ⟨rfl,hb1⟩;have HB:=aF (((aX _ _).alloc (aY _) _).trans (hb1.mono ((aX _ _).alloc (aY _) _).size));have y:=cP (cQ w _ _) hb1;obtain ⟨y0,y1,y2,y3,y4,y5,y6⟩:=aS y;clear y hb1)
  go_ret;refine ⟨?_,by first | exact HB.out | exact aH⟩;rw [HBL.out];clear HZ HBL;first | rfl | (simp;done) | (cases q4 <;> simp;done) | (cases q3 <;> cases q4 <;> cases q5 <;> cases q6 <;> cases q7 <;> simp;done)
theorem eJ (r:Rvl) (A B:Option Addr) (c d:Nat) (w:World):
 Calls Tryz.prog 128 #[.agg (rvC r A c B d).toArray] w fun e' w'=>e' = .returned (.int .i64 (shapeE r))/\Below w.heap.size w w':=by
 have HZ:=aF (fun W=>dQ r.place A c W);obtain ⟨R,hR⟩:∃R,shapeE r=R:=⟨_,rfl⟩;rw [hR];unfold shapeE at hR;by_cases h0:r.kind<0\/4<r.kind
 ·have HF:Hid (R=14):=aF (by rw [<- hR,bA h0]);clear hR HZ;unfold rvC;go_enter Tryz.func128,Tryz.ntmps128
  go_wp2_with fail
  all_goals first
   | (exfalso;omega)
   | (go_ret;exact ⟨by rw [HF.out];rfl,aH⟩)
 rw [aZ h0] at hR;obtain ⟨q3,hq3⟩:∃q,(r.op != 0)=q:=⟨_,rfl⟩;obtain ⟨q5,hq5⟩:∃q,(r.reg != 0)=q:=⟨_,rfl⟩;obtain ⟨q6,hq6⟩:∃q,r.mu=q:=⟨_,rfl⟩;obtain ⟨q7,hq7⟩:∃q,zeroP r.place=q:=⟨_,rfl⟩;obtain ⟨n,hn⟩:∃n,r.args.length=n:=⟨_,rfl⟩;have k3:decide (r.op=0) = !q3:=by rw [<- hq3,bQ];simp
 have k5:decide (r.reg=0) = !q5:=by rw [<- hq5,bQ];simp
 have HR:Hid (R=if (let plain:=(!q5) && !q6 && q7;if r.kind=0 then plain && !q3 && decide (n=1) else if r.kind=1 then !q3 && decide (n=0) else if r.kind=2 then plain && decide (n=1) else if r.kind=3 then plain && decide (n=2) else plain && !q3)=false then 2 else 0):=aF (by
  rw [<- hR];unfold unusedR
  rw [k3,k5,hq6,hq7,hn])
 rw [hq7] at HZ;clear hR k3 k5 hq7;unfold rvC;rw [hn,hq6];rcases (show r.kind=0\/r.kind=1\/r.kind=2\/r.kind=3\/r.kind=4 by omega) with hk | hk | hk | hk | hk
 ·rw [hk] at HR ⊢;have HF:=aF HR.out;clear HR hk h0 hn hq6;simp only at HF;rcases (show q3=true\/(q3=false/\q5=true)\/(q3=false/\q5=false/\q6=true)\/(q3=false/\q5=false/\q6=false/\q7=false)\/(q3=false/\q5=false/\q6=false/\q7=true) by cases q3 <;> cases q5 <;> cases q6 <;> cases q7 <;> simp) with rfl | ⟨rfl,rfl⟩ | ⟨rfl,rfl,rfl⟩ | ⟨rfl,rfl,rfl,rfl⟩ | ⟨rfl,rfl,rfl,rfl⟩
  all_goals
   go_enter Tryz.func128,Tryz.ntmps128
   go_wp2_with (go_at_call 95;refine (HZ.out _).mono ?_;rintro e' w1 ⟨rfl,hb1⟩;have HB:=aF (((aX _ _).alloc (aY _) _).trans (hb1.mono ((aX _ _).alloc (aY _) _).size));have y:=cP (cQ w _ _) hb1;obtain ⟨y0,y1,y2,y3,y4,y5,y6⟩:=aS y;clear y hb1)
   all_goals first
    | (exfalso;omega)
    | (go_ret
       refine ⟨?_,by first | exact HB.out | exact aH⟩;rw [HF.out];refine congrArg (fun i=>Ending.returned (Value.int .i64 i)) ?_;clear HF HZ;try clear HB y0 y1 y2 y3 y4 y5 y6
       first | rfl | (simp;done) | (simp;omega) | (simp_all;done) | (simp_all;omega) | grind)
 ·rw [hk] at HR ⊢;have HF:=aF HR.out;clear HR hk h0 hn hq6;simp only at HF;cases q3
  all_goals
   go_enter Tryz.func128,Tryz.ntmps128
   go_wp2_with (go_at_call 95;refine (HZ.out _).mono ?_;rintro e' w1 ⟨rfl,hb1⟩;have HB:=aF (((aX _ _).alloc (aY _) _).trans (hb1.mono ((aX _ _).alloc (aY _) _).size));have y:=cP (cQ w _ _) hb1;obtain ⟨y0,y1,y2,y3,y4,y5,y6⟩:=aS y;clear y hb1)
   all_goals first
    | (exfalso;omega)
    | (go_ret
       refine ⟨?_,by first | exact HB.out | exact aH⟩;rw [HF.out];refine congrArg (fun i=>Ending.returned (Value.int .i64 i)) ?_;clear HF HZ;try clear HB y0 y1 y2 y3 y4 y5 y6
       first | rfl | (simp;done) | (simp;omega) | (simp_all;done) | (simp_all;omega) | grind)
 ·rw [hk] at HR ⊢;have HF:=aF HR.out;clear HR hk h0 hn hq6;simp only at HF;rcases (show q5=true\/(q5=false/\q6=true)\/(q5=false/\q6=false/\q7=false)\/(q5=false/\q6=false/\q7=true) by cases q5 <;> cases q6 <;> cases q7 <;> simp) with rfl | ⟨rfl,rfl⟩ | ⟨rfl,rfl,rfl⟩ | ⟨rfl,rfl,rfl⟩
  all_goals
   go_enter Tryz.func128,Tryz.ntmps128
   go_wp2_with (go_at_call 95;refine (HZ.out _).mono ?_;rintro e' w1 ⟨rfl,hb1⟩;have HB:=aF (((aX _ _).alloc (aY _) _).trans (hb1.mono ((aX _ _).alloc (aY _) _).size));have y:=cP (cQ w _ _) hb1;obtain ⟨y0,y1,y2,y3,y4,y5,y6⟩:=aS y;clear y hb1)
   all_goals first
    | (exfalso;omega)
    | (go_ret
       refine ⟨?_,by first | exact HB.out | exact aH⟩;rw [HF.out];refine congrArg (fun i=>Ending.returned (Value.int .i64 i)) ?_;clear HF HZ;try clear HB y0 y1 y2 y3 y4 y5 y6
       first | rfl | (simp;done) | (simp;omega) | (simp_all;done) | (simp_all;omega) | grind)
 ·rw [hk] at HR ⊢;have HF:=aF HR.out;clear HR hk h0 hn hq6;simp only at HF;rcases (show q5=true\/(q5=false/\q6=true)\/(q5=false/\q6=false/\q7=false)\/(q5=false/\q6=false/\q7=true) by cases q5 <;> cases q6 <;> cases q7 <;> simp) with rfl | ⟨rfl,rfl⟩ | ⟨rfl,rfl,rfl⟩ | ⟨rfl,rfl,rfl⟩
  all_goals
   go_enter Tryz.func128,Tryz.ntmps128
   go_wp2_with (go_at_call 95;refine (HZ.out _).mono ?_;rintro e' w1 ⟨rfl,hb1⟩;have HB:=aF (((aX _ _).alloc (aY _) _).trans (hb1.mono ((aX _ _).alloc (aY _) _).size));have y:=cP (cQ w _ _) hb1;obtain ⟨y0,y1,y2,y3,y4,y5,y6⟩:=aS y;clear y hb1)
   all_goals first
    | (exfalso;omega)
    | (go_ret
       refine ⟨?_,by first | exact HB.out | exact aH⟩;rw [HF.out];refine congrArg (fun i=>Ending.returned (Value.int .i64 i)) ?_;clear HF HZ;try clear HB y0 y1 y2 y3 y4 y5 y6
       first | rfl | (simp;done) | (simp;omega) | (simp_all;done) | (simp_all;omega) | grind)
 ·rw [hk] at HR ⊢;have HF:=aF HR.out;clear HR hk h0 hn hq6;simp only at HF;rcases (show q3=true\/(q3=false/\q5=true)\/(q3=false/\q5=false/\q6=true)\/(q3=false/\q5=false/\q6=false/\q7=false)\/(q3=false/\q5=false/\q6=false/\q7=true) by cases q3 <;> cases q5 <;> cases q6 <;> cases q7 <;> simp) with rfl | ⟨rfl,rfl⟩ | ⟨rfl,rfl,rfl⟩ | ⟨rfl,rfl,rfl,rfl⟩ | ⟨rfl,rfl,rfl,rfl⟩
  all_goals
   go_enter Tryz.func128,Tryz.ntmps128
   go_wp2_with (go_at_call 95;refine (HZ.out _).mono ?_;rintro e' w1 ⟨rfl,hb1⟩;have HB:=aF (((aX _ _).alloc (aY _) _).trans (hb1.mono ((aX _ _).alloc (aY _) _).size));have y:=cP (cQ w _ _) hb1;obtain ⟨y0,y1,y2,y3,y4,y5,y6⟩:=aS y;clear y hb1)
   all_goals first
    | (exfalso;omega)
    | (go_ret
       refine ⟨?_,by first | exact HB.out | exact aH⟩;rw [HF.out];refine congrArg (fun i=>Ending.returned (Value.int .i64 i)) ?_;clear HF HZ;try clear HB y0 y1 y2 y3 y4 y5 y6
       first | rfl | (simp;done) | (simp;omega) | (simp_all;done) | (simp_all;omega) | grind)
end
section
open Go Go.RowKit Go.Maps
theorem vO (b:Bdy) (hok:DeclOk b) (m:Nat) (HREC0:∀(s t:Int),s.toNat+t.toNat<m->∀(A D:Option Addr) (c d:Nat) (w:World),Slc 5 RTy w A c b.types->Slc 2 RPr w D d b.outl->Calls Tryz.prog 169 #[.slice D b.outl.length d,.int .i64 b.regions.length,.slice A b.types.length c,.int .i64 s,.int .i64 t] w fun e' w'=>e' = .returned (.bool (subB b s t))/\Below w.heap.size w w') (i j0:Nat) (hm:(i:Int).toNat+(j0:Int).toNat<m+1) (hi:i<b.types.length) (hj0:j0<b.types.length) (A D:Option Addr) (c d:Nat) (w:World) (hs:Slc 5 RTy w A c b.types) (hd:Slc 2 RPr w D d b.outl) (hcase:((b.types[i].kind != b.types[j0].kind) || (b.types[i].mu != b.types[j0].mu) || ((b.types[i].flds.length:Int) != (b.types[j0].flds.length:Int)))=true):
 Calls Tryz.prog 169 #[.slice D b.outl.length d,.int .i64 b.regions.length,.slice A b.types.length c,.int .i64 i,.int .i64 j0] w fun e' w'=>e' = .returned (.bool (subB b i j0))/\Below w.heap.size w w':=by
 have hle:=hs.le;have hbig:=hs.big;have HREC:=aF (fun (x y:Int) (h:x.toNat+y.toNat<m) W (hb:Below w.heap.size w W)=>HREC0 x y h A D c d W (hs.keep RTy.keeps hb) (hd.keep RPr.keeps hb));have HO:=aF (fun (x y:Int) W (hb:Below w.heap.size w W)=>iK b.outl b.regions.length x y D d W (hd.keep RPr.keeps hb) hok.pairs (by have:=hok.nreg;omega));have h1:¬(i:Int)<0:=by omega
 have h2:¬(b.types.length:Int)<=(i:Int):=by omega
 have h3:¬(j0:Int)<0:=by omega
 have h4:¬(b.types.length:Int)<=(j0:Int):=by omega
 have HSB:=aF (iX hok.tyok hi hj0);have HOKS:=aF (hok.tyok i hi);have HOKT:=aF (hok.tyok j0 hj0);obtain ⟨bb,oo,hA,hbb,hxs⟩:=hs.sl.at_ hi;obtain ⟨b2,o2,hA2,hbb2,hxt⟩:=hs.sl.at_ hj0;have hAA:some (⟨bb,oo,none⟩:Addr)=some ⟨b2,o2,none⟩:=hA.symm.trans hA2;simp only [cI,Addr.mk.injEq,and_true] at hAA;obtain ⟨rfl,rfl⟩:=hAA;clear hA2 hbb2;obtain ⟨ta,hta⟩:∃x,b.types[i]=x:=⟨_,rfl⟩;obtain ⟨tb,htb⟩:∃x,b.types[j0]=x:=⟨_,rfl⟩;rw [hta] at hxs HSB HOKS hcase;rw [htb] at hxt HSB HOKT hcase;obtain ⟨r0,r1,r2,r3,A2,c2,r4,r6,r7,r8⟩:=hxs;obtain ⟨q0,q1,q2,q3,B2,d2,q4,q6,q7,q8⟩:=hxt;have HFA:Hid (Slc 1 RInt w A2 c2 ta.flds):=aF ⟨r8,r6,r7⟩;have HFB:Hid (Slc 1 RInt w B2 d2 tb.flds):=aF ⟨q8,q6,q7⟩;subst hA;simp only [bV] at hm;have HCALL:Hid (∀(x y:Int),((0<=x/\x<i/\0<=y/\y<j0)\/(0<=x/\x<j0/\0<=y/\y<i))->∀W,Below w.heap.size w W->_):=aF (fun x y h W hb=>HREC.out x y (by omega) W hb);clear hs hd r8 q8 hta htb HREC;obtain ⟨ma,hma⟩:∃q,ta.mu=q:=⟨_,rfl⟩;obtain ⟨mb,hmb⟩:∃q,tb.mu=q:=⟨_,rfl⟩;obtain ⟨ka,hka⟩:∃q,ta.kind=q:=⟨_,rfl⟩;obtain ⟨kb,hkb⟩:∃q,tb.kind=q:=⟨_,rfl⟩;obtain ⟨na,hna⟩:∃q,ta.flds.length=q:=⟨_,rfl⟩;obtain ⟨nb,hnb⟩:∃q,tb.flds.length=q:=⟨_,rfl⟩;rw [hma] at r1;rw [hmb] at q1;rw [hka] at r0;rw [hkb] at q0;rw [hna] at r4 r6;rw [hnb] at q4 q6;obtain ⟨p1,hp1⟩:∃q,(ka != kb)=q:=⟨_,rfl⟩;obtain ⟨p2,hp2⟩:∃q,(ma != mb)=q:=⟨_,rfl⟩;obtain ⟨p3,hp3⟩:∃q,((na:Int) != (nb:Int))=q:=⟨_,rfl⟩;rw [hma,hmb,hka,hkb,hna,hnb,hp1,hp2,hp3] at hcase
 have HLAW:Hid (subB b i j0=(!p1 && !p2 && !p3 && (ta.flds.zip tb.flds).all (fun p=>subB b p.1 p.2) && (decide (ta.kind≠3) || (outB b.outl b.regions.length ta.reg tb.reg && subB b ta.elem tb.elem && (!ta.mu || subB b tb.elem ta.elem))))):=aF (by
  rw [HSB.out];unfold subS;have g1:decide (ta.kind=tb.kind) = !p1:=by rw [<- hp1,hka,hkb,bQ];simp
  have g2:decide (ta.mu=tb.mu) = !p2:=by rw [<- hp2,hma,hmb];cases ma <;> cases mb <;> rfl
  have g3:decide (ta.flds.length=tb.flds.length) = !p3:=by rw [<- hp3,hna,hnb,bQ];simp;omega
  rw [g1,g2,g3])
 clear HSB;have HB0:=aF (fun x y=>bel2 w x y);have HB0:=aF (fun x y=>bel2 w x y);have HF:Hid (subB b i j0=false):=aF (by rw [HLAW.out];revert hcase;cases p1 <;> cases p2 <;> cases p3 <;> simp);rw [HF.out];clear HLAW HCALL HO hma hmb hka hkb hna hnb;rcases (show p1=true\/(p1=false/\p2=true)\/(p1=false/\p2=false/\p3=true) by revert hcase;cases p1 <;> cases p2 <;> cases p3 <;> simp) with rfl | ⟨rfl,rfl⟩ | ⟨rfl,rfl,rfl⟩
 ·clear hcase hp2 hp3;go_enter Tryz.func169,Tryz.ntmps169
  go_wp2_with fail
  all_goals first
   | (exfalso;omega)
   | (go_ret;exact ⟨rfl,HB0.out _ _⟩)
 ·clear hcase hp3;have hmm:(ma=true/\mb=false)\/(ma=false/\mb=true):=by revert hp2;cases ma <;> cases mb <;> simp
  clear hp2;rcases hmm with ⟨rfl,rfl⟩ | ⟨rfl,rfl⟩
  all_goals
   go_enter Tryz.func169,Tryz.ntmps169
   go_wp2_with fail
   all_goals first
    | (exfalso;omega)
    | (go_ret;exact ⟨rfl,HB0.out _ _⟩)
 ·clear hcase;obtain rfl:ma=mb:=by revert hp2;cases ma <;> cases mb <;> simp
  clear hp2;go_enter Tryz.func169,Tryz.ntmps169
  go_wp2_with fail
  all_goals first
   | (exfalso;omega)
   | (go_ret;exact ⟨rfl,HB0.out _ _⟩)
theorem zO (b:Bdy) (hok:DeclOk b) (m:Nat) (HREC0:∀(s t:Int),s.toNat+t.toNat<m->∀(A D:Option Addr) (c d:Nat) (w:World),Slc 5 RTy w A c b.types->Slc 2 RPr w D d b.outl->Calls Tryz.prog 169 #[.slice D b.outl.length d,.int .i64 b.regions.length,.slice A b.types.length c,.int .i64 s,.int .i64 t] w fun e' w'=>e' = .returned (.bool (subB b s t))/\Below w.heap.size w w') (i j0:Nat) (hm:(i:Int).toNat+(j0:Int).toNat<m+1) (hi:i<b.types.length) (hj0:j0<b.types.length) (A D:Option Addr) (c d:Nat) (w:World) (hs:Slc 5 RTy w A c b.types) (hd:Slc 2 RPr w D d b.outl) (hcase:((b.types[i].kind != b.types[j0].kind) || (b.types[i].mu != b.types[j0].mu) || ((b.types[i].flds.length:Int) != (b.types[j0].flds.length:Int)))=false) (hk:b.types[i].kind≠3):
 Calls Tryz.prog 169 #[.slice D b.outl.length d,.int .i64 b.regions.length,.slice A b.types.length c,.int .i64 i,.int .i64 j0] w fun e' w'=>e' = .returned (.bool (subB b i j0))/\Below w.heap.size w w':=by
 have hle:=hs.le;have hbig:=hs.big;have HREC:=aF (fun (x y:Int) (h:x.toNat+y.toNat<m) W (hb:Below w.heap.size w W)=>HREC0 x y h A D c d W (hs.keep RTy.keeps hb) (hd.keep RPr.keeps hb));have HO:=aF (fun (x y:Int) W (hb:Below w.heap.size w W)=>iK b.outl b.regions.length x y D d W (hd.keep RPr.keeps hb) hok.pairs (by have:=hok.nreg;omega));have h1:¬(i:Int)<0:=by omega
 have h2:¬(b.types.length:Int)<=(i:Int):=by omega
 have h3:¬(j0:Int)<0:=by omega
 have h4:¬(b.types.length:Int)<=(j0:Int):=by omega
 have HSB:=aF (iX hok.tyok hi hj0);have HOKS:=aF (hok.tyok i hi);have HOKT:=aF (hok.tyok j0 hj0);obtain ⟨bb,oo,hA,hbb,hxs⟩:=hs.sl.at_ hi;obtain ⟨b2,o2,hA2,hbb2,hxt⟩:=hs.sl.at_ hj0;have hAA:some (⟨bb,oo,none⟩:Addr)=some ⟨b2,o2,none⟩:=hA.symm.trans hA2;simp only [cI,Addr.mk.injEq,and_true] at hAA;obtain ⟨rfl,rfl⟩:=hAA;clear hA2 hbb2;obtain ⟨ta,hta⟩:∃x,b.types[i]=x:=⟨_,rfl⟩;obtain ⟨tb,htb⟩:∃x,b.types[j0]=x:=⟨_,rfl⟩;rw [hta] at hxs HSB HOKS hcase hk;rw [htb] at hxt HSB HOKT hcase;obtain ⟨r0,r1,r2,r3,A2,c2,r4,r6,r7,r8⟩:=hxs;obtain ⟨q0,q1,q2,q3,B2,d2,q4,q6,q7,q8⟩:=hxt;have HFA:Hid (Slc 1 RInt w A2 c2 ta.flds):=aF ⟨r8,r6,r7⟩;have HFB:Hid (Slc 1 RInt w B2 d2 tb.flds):=aF ⟨q8,q6,q7⟩;subst hA;simp only [bV] at hm;have HCALL:Hid (∀(x y:Int),((0<=x/\x<i/\0<=y/\y<j0)\/(0<=x/\x<j0/\0<=y/\y<i))->∀W,Below w.heap.size w W->_):=aF (fun x y h W hb=>HREC.out x y (by omega) W hb);clear hs hd r8 q8 hta htb HREC;obtain ⟨ma,hma⟩:∃q,ta.mu=q:=⟨_,rfl⟩;obtain ⟨mb,hmb⟩:∃q,tb.mu=q:=⟨_,rfl⟩;obtain ⟨ka,hka⟩:∃q,ta.kind=q:=⟨_,rfl⟩;obtain ⟨kb,hkb⟩:∃q,tb.kind=q:=⟨_,rfl⟩;obtain ⟨na,hna⟩:∃q,ta.flds.length=q:=⟨_,rfl⟩;obtain ⟨nb,hnb⟩:∃q,tb.flds.length=q:=⟨_,rfl⟩;rw [hma] at r1;rw [hmb] at q1;rw [hka] at r0;rw [hkb] at q0;rw [hna] at r4 r6;rw [hnb] at q4 q6;obtain ⟨p1,hp1⟩:∃q,(ka != kb)=q:=⟨_,rfl⟩;obtain ⟨p2,hp2⟩:∃q,(ma != mb)=q:=⟨_,rfl⟩;obtain ⟨p3,hp3⟩:∃q,((na:Int) != (nb:Int))=q:=⟨_,rfl⟩;rw [hma,hmb,hka,hkb,hna,hnb,hp1,hp2,hp3] at hcase
 have HLAW:Hid (subB b i j0=(!p1 && !p2 && !p3 && (ta.flds.zip tb.flds).all (fun p=>subB b p.1 p.2) && (decide (ta.kind≠3) || (outB b.outl b.regions.length ta.reg tb.reg && subB b ta.elem tb.elem && (!ta.mu || subB b tb.elem ta.elem))))):=aF (by
  rw [HSB.out];unfold subS;have g1:decide (ta.kind=tb.kind) = !p1:=by rw [<- hp1,hka,hkb,bQ];simp
  have g2:decide (ta.mu=tb.mu) = !p2:=by rw [<- hp2,hma,hmb];cases ma <;> cases mb <;> rfl
  have g3:decide (ta.flds.length=tb.flds.length) = !p3:=by rw [<- hp3,hna,hnb,bQ];simp;omega
  rw [g1,g2,g3])
 clear HSB;have HB0:=aF (fun x y=>bel2 w x y);have HB0:=aF (fun x y=>bel2 w x y);obtain ⟨rfl,rfl,rfl⟩:p1=false/\p2=false/\p3=false:=by revert hcase;cases p1 <;> cases p2 <;> cases p3 <;> simp
 obtain rfl:ma=mb:=by revert hp2;cases ma <;> cases mb <;> simp
 obtain rfl:ka=kb:=by simpa using hp1
 obtain rfl:na=nb:=by have h5:(na:Int)=nb:=by simpa using hp3
                      omega
 clear hp1 hp2 hp3 hmb;have HMA:=aF hma;have HKA:=aF hka;have HKB:=aF hkb;have HNA:=aF hna;have HNB:=aF hnb;clear hma hka hkb hna hnb;obtain ⟨EE,hEE⟩:∃EE,(decide (ta.kind≠3) || (outB b.outl b.regions.length ta.reg tb.reg && subB b ta.elem tb.elem && (!ta.mu || subB b tb.elem ta.elem)))=EE:=⟨_,rfl⟩;have HE:=aF hEE;have HL2:Hid (subB b i j0=(((ta.flds.drop 0).zip (tb.flds.drop 0)).all (fun p=>subB b p.1 p.2) && EE)):=aF (by rw [HLAW.out,hEE,bW,bW];simp only [Bool.not_false,Bool.true_and]);generalize subB b (i:Int) (j0:Int)=R at HL2 ⊢;clear hcase HLAW hEE;have HAC:=aF (fun k v (hk:([Value.int .i64 ka,.bool ma,.int .i64 ta.reg,.int .i64 ta.elem,.slice A2 na c2]:List Value)[k]?=some v)=>(cO ((aX _ _).alloc (aY _) (.cells ([Value.int .i64 ka,.bool ma,.int .i64 tb.reg,.int .i64 tb.elem,.slice B2 na d2]:List Value).toArray 65)) (cQ w [Value.int .i64 ka,.bool ma,.int .i64 ta.reg,.int .i64 ta.elem,.slice A2 na c2] 65 k v hk)));have HBC0:=aF (cQ (w.alloc (.cells ([Value.int .i64 ka,.bool ma,.int .i64 ta.reg,.int .i64 ta.elem,.slice A2 na c2]:List Value).toArray 65)) [Value.int .i64 ka,.bool ma,.int .i64 tb.reg,.int .i64 tb.elem,.slice B2 na d2] 65);rw [bI] at HBC0;go_enter Tryz.func169,Tryz.ntmps169
 go_wp2_with fail
 all_goals try (exfalso;omega)
 all_goals try (exfalso;simp_all;done)
 go_loopg [13] na (fun gk v wr=>∃j:Nat,gk=na - j/\j<=na/\v = .int .i64 j/\Hid (Below w.heap.size w wr)/\Hid (aA [Value.int .i64 ka,.bool ma,.int .i64 ta.reg,.int .i64 ta.elem,.slice A2 na c2] wr w.heap.size)/\Hid (aA [Value.int .i64 ka,.bool ma,.int .i64 tb.reg,.int .i64 tb.elem,.slice B2 na d2] wr (w.heap.size+1))/\Hid (R=(((ta.flds.drop j).zip (tb.flds.drop j)).all (fun p=>subB b p.1 p.2) && EE)))
 case atStart=>exact ⟨0,by omega,by omega,rfl,aF (HB0.out _ _),HAC,HBC0,HL2⟩
 case round=>
  clear HB0 HAC HBC0 HL2 r0 r1 r2 r3 r4 q0 q1 q2 q3 q4;obtain ⟨j,hgk,hj,rfl,HBL,HA,HBC,HV⟩:=hrel;obtain ⟨ca0,ca1,ca2,ca3,ca4⟩:=aQ HA.out;obtain ⟨cb0,cb1,cb2,cb3,cb4⟩:=aQ HBC.out;by_cases hltn:j<na
  ·have hlt:j<ta.flds.length:=by rw [HNA.out];exact hltn
   have hlt2:j<tb.flds.length:=by rw [HNB.out];exact hltn
   obtain ⟨ba,oa,rfl,hba,hxa⟩:=HFA.out.sl.at_ hlt;obtain ⟨b8,o8,rfl,hb8,hxb⟩:=HFB.out.sl.at_ hlt2;have h5:=HOKS.out.2 ta.flds[j] (bM hlt);have h6:=HOKT.out.2 tb.flds[j] (bM hlt2);have HV2:Hid (R=(subB b ta.flds[j] tb.flds[j] && (((ta.flds.drop (j+1)).zip (tb.flds.drop (j+1))).all (fun p=>subB b p.1 p.2) && EE))):=aF (by rw [HV.out,cV hlt,cV hlt2,List.zip_cons_cons,cB,Bool.and_assoc]);obtain ⟨x,hxx⟩:∃x,ta.flds[j]=x:=⟨_,rfl⟩;obtain ⟨y,hyy⟩:∃y,tb.flds[j]=y:=⟨_,rfl⟩;rw [hxx] at hxa h5 HV2;rw [hyy] at hxb h6 HV2;have xa:w.cell? ⟨ba,oa+j,none⟩=some (.int .i64 x):=by simpa [RInt] using hxa
   have xb:w.cell? ⟨b8,o8+j,none⟩=some (.int .i64 y):=by simpa [RInt] using hxb
   have HCX:=aF (HCALL.out x y (Or.inl ⟨h5.1,h5.2,h6.1,h6.2⟩));have XA:=aF xa;have XB:=aF xb;clear hxa hxb h5 h6 hxx hyy HV xa xb;go_wp2_with fail
   have hS:Below w.heap.size w wr.drew/\(aA [Value.int .i64 ka,.bool ma,.int .i64 ta.reg,.int .i64 ta.elem,.slice (some ⟨ba,oa,none⟩) na c2] wr.drew w.heap.size)/\(aA [Value.int .i64 ka,.bool ma,.int .i64 tb.reg,.int .i64 tb.elem,.slice (some ⟨b8,o8,none⟩) na d2] wr.drew (w.heap.size+1)):=⟨HBL.out.drew,HA.out,HBC.out⟩;clear ca0 ca1 ca2 ca3 ca4 cb0 cb1 cb2 cb3 cb4;refine cT (S:=fun X=>Below w.heap.size w X/\(aA [Value.int .i64 ka,.bool ma,.int .i64 ta.reg,.int .i64 ta.elem,.slice (some ⟨ba,oa,none⟩) na c2] X w.heap.size)/\(aA [Value.int .i64 ka,.bool ma,.int .i64 tb.reg,.int .i64 tb.elem,.slice (some ⟨b8,o8,none⟩) na d2] X (w.heap.size+1))) [0,1,2,3,4,5,6,7,8,9,10,11,12,13,14] (by kernel_rfl) ?_;(iterate 13 (refine cR (v:=?_) ?_ hS ?_;rotate_left;(next=>(rintro X ⟨hZ,hX,hY⟩;have s4:=hX 4 _ rfl;have u4:=hY 4 _ rfl;have v1:=cO hZ XA.out;have v2:=cO hZ XB.out;(try simp only [aI]);go_simp;rfl));simp only [aM]));(refine cY (fun K1 hK1=>?_);simp only [aM];rw [bA (by rfl)];go_simp);refine (HCX.out _ hS.1).mono ?_;rintro e' w2 ⟨rfl,hb⟩;replace hS:=bJ (hS.1.trans (hb.mono hS.1.size)) (bJ (cP hS.2.1 hb) (cP hS.2.2 hb));clear hb;refine hK1.out _ _ (fun _=>hS) ?_;clear hK1;have HS2:=aF hS;generalize subB b x y=sb at HV2;((refine cR (v:=?_) ?_ hS ?_;rotate_left;(next=>(rintro X -;(try simp only [aI]);go_simp;rfl));simp only [aM]))
   refine cZ ?_;clear hS;cases sb
   ·have HF:Hid (R=false):=aF (by rw [HV2.out];rfl);go_wp2_with fail
    go_ret;exact ⟨by rw [HF.out];rfl,HS2.out.1⟩
   ·have HF:Hid (R=(((ta.flds.drop (j+1)).zip (tb.flds.drop (j+1))).all (fun p=>subB b p.1 p.2) && EE)):=aF (by rw [HV2.out,Bool.true_and]);go_wp2_with fail
    go_roundg (na - (j+1))
    case measure=>omega
    case rel=>exact ⟨j+1,rfl,by omega,by go_num,aF HS2.out.1,aF HS2.out.2.1,aF HS2.out.2.2,HF⟩
  ·have HR:Hid (R=EE):=aF (by rw [HV.out,bE (by rw [HNA.out];omega:ta.flds.length<=j)];rfl);have e0:¬((j:Int)<(na:Int)):=by omega
   clear HV;have e3:(ka != 3)=true:=by rw [<- HKA.out];simp [hk]
   have HF:Hid (R=true):=aF (by rw [HR.out,<- HE.out];simp [hk]);go_wp2_with fail
   go_ret;exact ⟨by rw [HF.out];rfl,HBL.out⟩
theorem zN (b:Bdy) (hok:DeclOk b) (m:Nat) (HREC0:∀(s t:Int),s.toNat+t.toNat<m->∀(A D:Option Addr) (c d:Nat) (w:World),Slc 5 RTy w A c b.types->Slc 2 RPr w D d b.outl->Calls Tryz.prog 169 #[.slice D b.outl.length d,.int .i64 b.regions.length,.slice A b.types.length c,.int .i64 s,.int .i64 t] w fun e' w'=>e' = .returned (.bool (subB b s t))/\Below w.heap.size w w') (i j0:Nat) (hm:(i:Int).toNat+(j0:Int).toNat<m+1) (hi:i<b.types.length) (hj0:j0<b.types.length) (A D:Option Addr) (c d:Nat) (w:World) (hs:Slc 5 RTy w A c b.types) (hd:Slc 2 RPr w D d b.outl) (hcase:((b.types[i].kind != b.types[j0].kind) || (b.types[i].mu != b.types[j0].mu) || ((b.types[i].flds.length:Int) != (b.types[j0].flds.length:Int)))=false) (hk:b.types[i].kind=3):
 Calls Tryz.prog 169 #[.slice D b.outl.length d,.int .i64 b.regions.length,.slice A b.types.length c,.int .i64 i,.int .i64 j0] w fun e' w'=>e' = .returned (.bool (subB b i j0))/\Below w.heap.size w w':=by
 have hle:=hs.le;have hbig:=hs.big;have HREC:=aF (fun (x y:Int) (h:x.toNat+y.toNat<m) W (hb:Below w.heap.size w W)=>HREC0 x y h A D c d W (hs.keep RTy.keeps hb) (hd.keep RPr.keeps hb));have HO:=aF (fun (x y:Int) W (hb:Below w.heap.size w W)=>iK b.outl b.regions.length x y D d W (hd.keep RPr.keeps hb) hok.pairs (by have:=hok.nreg;omega));have h1:¬(i:Int)<0:=by omega
 have h2:¬(b.types.length:Int)<=(i:Int):=by omega
 have h3:¬(j0:Int)<0:=by omega
 have h4:¬(b.types.length:Int)<=(j0:Int):=by omega
 have HSB:=aF (iX hok.tyok hi hj0);have HOKS:=aF (hok.tyok i hi);have HOKT:=aF (hok.tyok j0 hj0);obtain ⟨bb,oo,hA,hbb,hxs⟩:=hs.sl.at_ hi;obtain ⟨b2,o2,hA2,hbb2,hxt⟩:=hs.sl.at_ hj0;have hAA:some (⟨bb,oo,none⟩:Addr)=some ⟨b2,o2,none⟩:=hA.symm.trans hA2;simp only [cI,Addr.mk.injEq,and_true] at hAA;obtain ⟨rfl,rfl⟩:=hAA;clear hA2 hbb2;obtain ⟨ta,hta⟩:∃x,b.types[i]=x:=⟨_,rfl⟩;obtain ⟨tb,htb⟩:∃x,b.types[j0]=x:=⟨_,rfl⟩;rw [hta] at hxs HSB HOKS hcase hk;rw [htb] at hxt HSB HOKT hcase;obtain ⟨r0,r1,r2,r3,A2,c2,r4,r6,r7,r8⟩:=hxs;obtain ⟨q0,q1,q2,q3,B2,d2,q4,q6,q7,q8⟩:=hxt;have HFA:Hid (Slc 1 RInt w A2 c2 ta.flds):=aF ⟨r8,r6,r7⟩;have HFB:Hid (Slc 1 RInt w B2 d2 tb.flds):=aF ⟨q8,q6,q7⟩;subst hA;simp only [bV] at hm;have HCALL:Hid (∀(x y:Int),((0<=x/\x<i/\0<=y/\y<j0)\/(0<=x/\x<j0/\0<=y/\y<i))->∀W,Below w.heap.size w W->_):=aF (fun x y h W hb=>HREC.out x y (by omega) W hb);clear hs hd r8 q8 hta htb HREC;obtain ⟨ma,hma⟩:∃q,ta.mu=q:=⟨_,rfl⟩;obtain ⟨mb,hmb⟩:∃q,tb.mu=q:=⟨_,rfl⟩;obtain ⟨ka,hka⟩:∃q,ta.kind=q:=⟨_,rfl⟩;obtain ⟨kb,hkb⟩:∃q,tb.kind=q:=⟨_,rfl⟩;obtain ⟨na,hna⟩:∃q,ta.flds.length=q:=⟨_,rfl⟩;obtain ⟨nb,hnb⟩:∃q,tb.flds.length=q:=⟨_,rfl⟩;rw [hma] at r1;rw [hmb] at q1;rw [hka] at r0;rw [hkb] at q0;rw [hna] at r4 r6;rw [hnb] at q4 q6;obtain ⟨p1,hp1⟩:∃q,(ka != kb)=q:=⟨_,rfl⟩;obtain ⟨p2,hp2⟩:∃q,(ma != mb)=q:=⟨_,rfl⟩;obtain ⟨p3,hp3⟩:∃q,((na:Int) != (nb:Int))=q:=⟨_,rfl⟩;rw [hma,hmb,hka,hkb,hna,hnb,hp1,hp2,hp3] at hcase
 have HLAW:Hid (subB b i j0=(!p1 && !p2 && !p3 && (ta.flds.zip tb.flds).all (fun p=>subB b p.1 p.2) && (decide (ta.kind≠3) || (outB b.outl b.regions.length ta.reg tb.reg && subB b ta.elem tb.elem && (!ta.mu || subB b tb.elem ta.elem))))):=aF (by
  rw [HSB.out];unfold subS;have g1:decide (ta.kind=tb.kind) = !p1:=by rw [<- hp1,hka,hkb,bQ];simp
  have g2:decide (ta.mu=tb.mu) = !p2:=by rw [<- hp2,hma,hmb];cases ma <;> cases mb <;> rfl
  have g3:decide (ta.flds.length=tb.flds.length) = !p3:=by rw [<- hp3,hna,hnb,bQ];simp;omega
  rw [g1,g2,g3])
 clear HSB;have HB0:=aF (fun x y=>bel2 w x y);have HB0:=aF (fun x y=>bel2 w x y);obtain ⟨rfl,rfl,rfl⟩:p1=false/\p2=false/\p3=false:=by revert hcase;cases p1 <;> cases p2 <;> cases p3 <;> simp
 obtain rfl:ma=mb:=by revert hp2;cases ma <;> cases mb <;> simp
 obtain rfl:ka=kb:=by simpa using hp1
 obtain rfl:na=nb:=by have h5:(na:Int)=nb:=by simpa using hp3
                      omega
 clear hp1 hp2 hp3 hmb;have HMA:=aF hma;have HKA:=aF hka;have HKB:=aF hkb;have HNA:=aF hna;have HNB:=aF hnb;clear hma hka hkb hna hnb;obtain ⟨EE,hEE⟩:∃EE,(decide (ta.kind≠3) || (outB b.outl b.regions.length ta.reg tb.reg && subB b ta.elem tb.elem && (!ta.mu || subB b tb.elem ta.elem)))=EE:=⟨_,rfl⟩;have HE:=aF hEE;have HL2:Hid (subB b i j0=(((ta.flds.drop 0).zip (tb.flds.drop 0)).all (fun p=>subB b p.1 p.2) && EE)):=aF (by rw [HLAW.out,hEE,bW,bW];simp only [Bool.not_false,Bool.true_and]);generalize subB b (i:Int) (j0:Int)=R at HL2 ⊢;clear hcase HLAW hEE;have HAC:=aF (fun k v (hk:([Value.int .i64 ka,.bool ma,.int .i64 ta.reg,.int .i64 ta.elem,.slice A2 na c2]:List Value)[k]?=some v)=>(cO ((aX _ _).alloc (aY _) (.cells ([Value.int .i64 ka,.bool ma,.int .i64 tb.reg,.int .i64 tb.elem,.slice B2 na d2]:List Value).toArray 65)) (cQ w [Value.int .i64 ka,.bool ma,.int .i64 ta.reg,.int .i64 ta.elem,.slice A2 na c2] 65 k v hk)));have HBC0:=aF (cQ (w.alloc (.cells ([Value.int .i64 ka,.bool ma,.int .i64 ta.reg,.int .i64 ta.elem,.slice A2 na c2]:List Value).toArray 65)) [Value.int .i64 ka,.bool ma,.int .i64 tb.reg,.int .i64 tb.elem,.slice B2 na d2] 65);rw [bI] at HBC0;go_enter Tryz.func169,Tryz.ntmps169
 go_wp2_with fail
 all_goals try (exfalso;omega)
 all_goals try (exfalso;simp_all;done)
 go_loopg [13] na (fun gk v wr=>∃j:Nat,gk=na - j/\j<=na/\v = .int .i64 j/\Hid (Below w.heap.size w wr)/\Hid (aA [Value.int .i64 ka,.bool ma,.int .i64 ta.reg,.int .i64 ta.elem,.slice A2 na c2] wr w.heap.size)/\Hid (aA [Value.int .i64 ka,.bool ma,.int .i64 tb.reg,.int .i64 tb.elem,.slice B2 na d2] wr (w.heap.size+1))/\Hid (R=(((ta.flds.drop j).zip (tb.flds.drop j)).all (fun p=>subB b p.1 p.2) && EE)))
 case atStart=>exact ⟨0,by omega,by omega,rfl,aF (HB0.out _ _),HAC,HBC0,HL2⟩
 case round=>
  clear HB0 HAC HBC0 HL2 r0 r1 r2 r3 r4 q0 q1 q2 q3 q4;obtain ⟨j,hgk,hj,rfl,HBL,HA,HBC,HV⟩:=hrel;obtain ⟨ca0,ca1,ca2,ca3,ca4⟩:=aQ HA.out;obtain ⟨cb0,cb1,cb2,cb3,cb4⟩:=aQ HBC.out;have hlt:¬j<na:=by rw [<- HNA.out,(HOKS.out.1 hk).2.2];simp
  have HR:Hid (R=EE):=aF (by rw [HV.out,bE (by rw [HNA.out];omega:ta.flds.length<=j)];rfl);have e0:¬((j:Int)<(na:Int)):=by omega
  clear HV;have e3:(ka != 3)=false:=by rw [<- HKA.out];simp [hk]
  have hk4:tb.kind=3:=by
   rw [HKB.out,<- HKA.out];exact hk
  obtain ⟨a1,a2,-⟩:=HOKS.out.1 hk;obtain ⟨b1,b2',-⟩:=HOKT.out.1 hk4;have HE3:Hid (R=(outB b.outl b.regions.length ta.reg tb.reg && subB b ta.elem tb.elem && (!ta.mu || subB b tb.elem ta.elem))):=aF (by rw [HR.out,<- HE.out];simp [hk]);obtain ⟨o1,ho1⟩:∃q,outB b.outl b.regions.length ta.reg tb.reg=q:=⟨_,rfl⟩;obtain ⟨s1,hs1⟩:∃q,subB b ta.elem tb.elem=q:=⟨_,rfl⟩;obtain ⟨s2,hs2⟩:∃q,subB b tb.elem ta.elem=q:=⟨_,rfl⟩;rw [ho1,hs1,hs2,HMA.out] at HE3;have HE0:=aF ho1;have HE1:=aF hs1;have HE2:=aF hs2;clear ho1 hs1 hs2 hk hk4 HOKS HOKT HE HR;rcases (show o1=false\/(o1=true/\s1=false)\/(o1=true/\s1=true/\ma=false)\/(o1=true/\s1=true/\ma=true) by cases o1 <;> cases s1 <;> cases ma <;> simp) with rfl | ⟨rfl,rfl⟩ | ⟨rfl,rfl,rfl⟩ | ⟨rfl,rfl,rfl⟩
  ·have HF:Hid (R=false):=aF (by rw [HE3.out];rfl);go_wp2_with (go_at_call 28;refine (HO.out _ _ _ HBL.out).mono ?_;rintro e' w4 ⟨rfl,hb⟩;rw [HE0.out];have HBX1:=aF (HBL.out.trans (hb.mono HBL.out.size));have HA1:=aF (cP HA.out hb);have HC1:=aF (cP HBC.out hb);clear hb HA HBC;clear ca0 ca1 ca2 ca3 ca4 cb0 cb1 cb2 cb3 cb4;have HA:=HA1;have HBC:=HC1;obtain ⟨ca0,ca1,ca2,ca3,ca4⟩:=aQ HA.out;obtain ⟨cb0,cb1,cb2,cb3,cb4⟩:=aQ HBC.out)
   go_ret;exact ⟨by rw [HF.out];rfl,HBX1.out⟩
  ·have HF:Hid (R=false):=aF (by rw [HE3.out];rfl);go_wp2_with (first | (go_at_call 169;refine (HCALL.out _ _ (by first | exact Or.inl ⟨by omega,by omega,by omega,by omega⟩ | exact Or.inr ⟨by omega,by omega,by omega,by omega⟩) _ (by exact HBX1.out)).mono ?_;rintro e' w2 ⟨rfl,hb⟩;rw [HE1.out];have HBX2:=aF (HBX1.out.trans (hb.mono HBX1.out.size));have HA2:=aF (cP HA1.out hb);have HC2:=aF (cP HC1.out hb);clear hb;clear ca0 ca1 ca2 ca3 ca4 cb0 cb1 cb2 cb3 cb4;have HA:=HA2;have HBC:=HC2;obtain ⟨ca0,ca1,ca2,ca3,ca4⟩:=aQ HA.out;obtain ⟨cb0,cb1,cb2,cb3,cb4⟩:=aQ HBC.out) | (go_at_call 28;refine (HO.out _ _ _ HBL.out).mono ?_;rintro e' w4 ⟨rfl,hb⟩;rw [HE0.out];have HBX1:=aF (HBL.out.trans (hb.mono HBL.out.size));have HA1:=aF (cP HA.out hb);have HC1:=aF (cP HBC.out hb);clear hb HA HBC;clear ca0 ca1 ca2 ca3 ca4 cb0 cb1 cb2 cb3 cb4;have HA:=HA1;have HBC:=HC1;obtain ⟨ca0,ca1,ca2,ca3,ca4⟩:=aQ HA.out;obtain ⟨cb0,cb1,cb2,cb3,cb4⟩:=aQ HBC.out))
   go_ret;exact ⟨by rw [HF.out];rfl,HBX2.out⟩
  ·have HF:Hid (R=true):=aF (by rw [HE3.out];rfl);go_wp2_with (first | (go_at_call 169;refine (HCALL.out _ _ (by first | exact Or.inl ⟨by omega,by omega,by omega,by omega⟩ | exact Or.inr ⟨by omega,by omega,by omega,by omega⟩) _ (by exact HBX1.out)).mono ?_;rintro e' w2 ⟨rfl,hb⟩;rw [HE1.out];have HBX2:=aF (HBX1.out.trans (hb.mono HBX1.out.size));have HA2:=aF (cP HA1.out hb);have HC2:=aF (cP HC1.out hb);clear hb;clear ca0 ca1 ca2 ca3 ca4 cb0 cb1 cb2 cb3 cb4;have HA:=HA2;have HBC:=HC2;obtain ⟨ca0,ca1,ca2,ca3,ca4⟩:=aQ HA.out;obtain ⟨cb0,cb1,cb2,cb3,cb4⟩:=aQ HBC.out) | (go_at_call 28;refine (HO.out _ _ _ HBL.out).mono ?_;rintro e' w4 ⟨rfl,hb⟩;rw [HE0.out];have HBX1:=aF (HBL.out.trans (hb.mono HBL.out.size));have HA1:=aF (cP HA.out hb);have HC1:=aF (cP HBC.out hb);clear hb HA HBC;clear ca0 ca1 ca2 ca3 ca4 cb0 cb1 cb2 cb3 cb4;have HA:=HA1;have HBC:=HC1;obtain ⟨ca0,ca1,ca2,ca3,ca4⟩:=aQ HA.out;obtain ⟨cb0,cb1,cb2,cb3,cb4⟩:=aQ HBC.out))
   go_ret;exact ⟨by rw [HF.out];rfl,HBX2.out⟩
  ·have HF:Hid (R=s2):=aF (by rw [HE3.out];simp);go_wp2_with (first | (go_at_call 169;refine (HCALL.out _ _ (by first | exact Or.inl ⟨by omega,by omega,by omega,by omega⟩ | exact Or.inr ⟨by omega,by omega,by omega,by omega⟩) _ (by exact HBX2.out)).mono ?_;rintro e' w3 ⟨rfl,hb⟩;rw [HE2.out];have HBX3:=aF (HBX2.out.trans (hb.mono HBX2.out.size));have HA3:=aF (cP HA2.out hb);have HC3:=aF (cP HC2.out hb);clear hb;clear ca0 ca1 ca2 ca3 ca4 cb0 cb1 cb2 cb3 cb4;have HA:=HA3;have HBC:=HC3;obtain ⟨ca0,ca1,ca2,ca3,ca4⟩:=aQ HA.out;obtain ⟨cb0,cb1,cb2,cb3,cb4⟩:=aQ HBC.out) | (go_at_call 169;refine (HCALL.out _ _ (by first | exact Or.inl ⟨by omega,by omega,by omega,by omega⟩ | exact Or.inr ⟨by omega,by omega,by omega,by omega⟩) _ (by exact HBX1.out)).mono ?_;rintro e' w2 ⟨rfl,hb⟩;rw [HE1.out];have HBX2:=aF (HBX1.out.trans (hb.mono HBX1.out.size));have HA2:=aF (cP HA1.out hb);have HC2:=aF (cP HC1.out hb);clear hb;clear ca0 ca1 ca2 ca3 ca4 cb0 cb1 cb2 cb3 cb4;have HA:=HA2;have HBC:=HC2;obtain ⟨ca0,ca1,ca2,ca3,ca4⟩:=aQ HA.out;obtain ⟨cb0,cb1,cb2,cb3,cb4⟩:=aQ HBC.out) | (go_at_call 28;refine (HO.out _ _ _ HBL.out).mono ?_;rintro e' w4 ⟨rfl,hb⟩;rw [HE0.out];have HBX1:=aF (HBL.out.trans (hb.mono HBL.out.size));have HA1:=aF (cP HA.out hb);have HC1:=aF (cP HBC.out hb);clear hb HA HBC;clear ca0 ca1 ca2 ca3 ca4 cb0 cb1 cb2 cb3 cb4;have HA:=HA1;have HBC:=HC1;obtain ⟨ca0,ca1,ca2,ca3,ca4⟩:=aQ HA.out;obtain ⟨cb0,cb1,cb2,cb3,cb4⟩:=aQ HBC.out))
   go_ret;exact ⟨by rw [HF.out];rfl,HBX3.out⟩
theorem rD (b:Bdy) (hok:DeclOk b):∀(m:Nat) (s t:Int),s.toNat+t.toNat<m->∀(A D:Option Addr) (c d:Nat) (w:World),Slc 5 RTy w A c b.types->Slc 2 RPr w D d b.outl->
 Calls Tryz.prog 169 #[.slice D b.outl.length d,.int .i64 b.regions.length,.slice A b.types.length c,.int .i64 s,.int .i64 t] w fun e' w'=>e' = .returned (.bool (subB b s t))/\Below w.heap.size w w'
 | 0,_,_,h=>absurd h (by omega)
 | m+1,s,t,hm=>by
   intro A D c d w hs hd;have HR:=rD b hok m;have hle:=hs.le;have hbig:=hs.big;by_cases hr:0<=s/\s<(b.types.length:Int)/\0<=t/\t<(b.types.length:Int)
   case neg=>
    rw [qZ (by omega)];clear hs hd HR;go_enter Tryz.func169,Tryz.ntmps169
    go_wp2_with fail
    all_goals first
     | (exfalso;omega)
     | (go_ret;exact ⟨rfl,aH⟩)
   case pos=>
   obtain ⟨i,rfl⟩:=bG hr.1;obtain ⟨j0,rfl⟩:=bG hr.2.2.1;have hi:i<b.types.length:=by omega
   have hj0:j0<b.types.length:=by omega
   obtain ⟨p,hp⟩:∃p,((b.types[i].kind != b.types[j0].kind) || (b.types[i].mu != b.types[j0].mu) || ((b.types[i].flds.length:Int) != (b.types[j0].flds.length:Int)))=p:=⟨_,rfl⟩;cases p
   ·by_cases hk:b.types[i].kind=3
    ·exact zN b hok m HR i j0 hm hi hj0 A D c d w hs hd hp hk
    ·exact zO b hok m HR i j0 hm hi hj0 A D c d w hs hd hp hk
   ·exact vO b hok m HR i j0 hm hi hj0 A D c d w hs hd hp
structure Rk (w:World) (b:Bdy) (bh:BH):Prop where
 at_:BdAt w b bh
 ok:DeclOk b
theorem Rk.keep {w w':World} {b:Bdy} {bh:BH} (h:Rk w b bh) (hb:Below w.heap.size w w'):Rk w' b bh:=⟨h.at_.keep hb,h.ok⟩
theorem dK {b:Bdy} {bh:BH} {w:World} (H:Rk w b bh) (o:Opd) (A:Option Addr) (c:Nat) (hp:Slc 2 RPj w A c o.place.proj):
 Calls Tryz.prog 97 #[.agg (bdC b bh).toArray,.agg (opC o A c).toArray] w fun e' w'=>e' = .returned (.int .i64 (opE b o))/\Below w.heap.size w w':=by
 have HT:=aF (fun W (hb:Below w.heap.size w W)=>eF b bh o.place A c W (H.keep hb).at_ (hp.keep RPj.keeps hb) H.ok.okay);have HZ:=aF (fun W=>dQ o.place A c W);have HD:=aF (fun W (hb:Below w.heap.size w W)=>nL o.place 0 A c W (hp.keep RPj.keeps hb));have HC:=aF (fun W (hb:Below w.heap.size w W) (i:Int)=>rH b.types H.ok.tyok (i.toNat+1) i (by omega) bh.A3 bh.c3 W (H.keep hb).at_.typ);have HQ:Hid (opE b o=if o.kind<0\/4<o.kind then 14 else if (o.kind≠2/\o.kind≠3/\o.n≠0)\/(1<o.kind/\zeroP o.place=false) then 2 else if o.kind=3/\o.n≠0/\o.n≠1 then 3 else if 1<o.kind then 0 else if (tyB b o.place).2≠0 then (tyB b o.place).2 else if o.kind=0 then fail22 (!copB b.types (tyB b o.place).1) else fail22 (hasD o.place.proj 0)):=aF rfl;generalize opE b o=q at HQ ⊢;generalize zeroP o.place=z at HZ HQ;generalize hasD o.place.proj 0=hd at HD HQ;generalize tyB b o.place=t at HT HQ;obtain ⟨t,e⟩:=t;simp only at HQ;obtain ⟨cp,hcp⟩:∃cp,copB b.types t=cp:=⟨_,rfl⟩;rw [hcp] at HQ;have HCP:=aF hcp;obtain ⟨k,pl,n⟩:=o;simp only at HQ HT HZ HD;clear H hp hcp;unfold bdC at *;unfold opC;simp only;by_cases h0:k<0\/4<k
 ·have HF:Hid (q=14):=aF (by rw [HQ.out,bA h0]);clear HQ HT HZ HD HC;go_enter Tryz.func97,Tryz.ntmps97
  go_wp2_with fail
  all_goals first
   | (exfalso;omega)
   | (go_ret;exact ⟨by rw [HF.out];rfl,aH⟩)
 rcases (show k=0\/k=1\/k=2\/k=3\/k=4 by omega) with rfl | rfl | rfl | rfl | rfl
 ·by_cases hn:n=0
  ·subst hn;by_cases he:e=0
   ·subst he;have HF:Hid (q=fail22 (!cp)):=aF (by rw [HQ.out];simp);clear HQ HZ HD h0;cases cp
    all_goals
     go_enter Tryz.func97,Tryz.ntmps97
     go_wp2_with (first | (go_at_call 92;refine (HT.out _ (bel2 _ _ _)).mono ?_;rintro e' w1 ⟨rfl,hb1⟩;have HB:=aF ((bel2 _ _ _).trans (hb1.mono (bel2 _ _ _).size));obtain ⟨z,y⟩:=cU hb1;have z3:=z 3 _ rfl;obtain ⟨y0,y1,y2,y3⟩:=aP y;clear z y hb1) | (go_at_call 131;refine (HC.out _ HB.out _).mono ?_;rintro e' w2 ⟨rfl,hw⟩;obtain rfl:=hw.symm;rw [HCP.out]))
     go_ret;exact ⟨by rw [HF.out];rfl,HB.out⟩
   ·have HF:Hid (q=e):=aF (by rw [HQ.out];simp [he]);have e5:(e != 0)=true:=by simp [he]
    clear HQ HZ HD h0 HC he;go_enter Tryz.func97,Tryz.ntmps97
    go_wp2_with (go_at_call 92;refine (HT.out _ (bel2 _ _ _)).mono ?_;rintro e' w1 ⟨rfl,hb1⟩;have HB:=aF ((bel2 _ _ _).trans (hb1.mono (bel2 _ _ _).size));obtain ⟨z,y⟩:=cU hb1;have z3:=z 3 _ rfl;obtain ⟨y0,y1,y2,y3⟩:=aP y;clear z y hb1)
    go_ret;exact ⟨by rw [HF.out];rfl,HB.out⟩
  ·have HF:Hid (q=2):=aF (by rw [HQ.out];simp [hn]);have e5:(n != 0)=true:=by simp [hn]
   clear HQ HZ HD h0 HC HT hn;go_enter Tryz.func97,Tryz.ntmps97
   go_wp2_with fail
   go_ret;exact ⟨by rw [HF.out];rfl,aH⟩
 ·by_cases hn:n=0
  ·subst hn;by_cases he:e=0
   ·subst he;have HF:Hid (q=fail22 hd):=aF (by rw [HQ.out];simp);clear HQ HZ HC h0;cases hd
    all_goals
     go_enter Tryz.func97,Tryz.ntmps97
     go_wp2_with (first | (go_at_call 92;refine (HT.out _ (bel2 _ _ _)).mono ?_;rintro e' w1 ⟨rfl,hb1⟩;have HB:=aF ((bel2 _ _ _).trans (hb1.mono (bel2 _ _ _).size));obtain ⟨z,y⟩:=cU hb1;have z3:=z 3 _ rfl;obtain ⟨y0,y1,y2,y3⟩:=aP y;clear z y hb1) | (go_at_call 99;refine (HD.out _ HB.out).mono ?_;rintro e' w2 ⟨rfl,hb2⟩;have HB2:=aF (HB.out.trans (hb2.mono HB.out.size));clear hb2))
     go_ret;exact ⟨by rw [HF.out];rfl,HB2.out⟩
   ·have HF:Hid (q=e):=aF (by rw [HQ.out];simp [he]);have e5:(e != 0)=true:=by simp [he]
    clear HQ HZ HD h0 HC he;go_enter Tryz.func97,Tryz.ntmps97
    go_wp2_with (go_at_call 92;refine (HT.out _ (bel2 _ _ _)).mono ?_;rintro e' w1 ⟨rfl,hb1⟩;have HB:=aF ((bel2 _ _ _).trans (hb1.mono (bel2 _ _ _).size));obtain ⟨z,y⟩:=cU hb1;have z3:=z 3 _ rfl;obtain ⟨y0,y1,y2,y3⟩:=aP y;clear z y hb1)
    go_ret;exact ⟨by rw [HF.out];rfl,HB.out⟩
  ·have HF:Hid (q=2):=aF (by rw [HQ.out];simp [hn]);have e5:(n != 0)=true:=by simp [hn]
   clear HQ HZ HD h0 HC HT hn;go_enter Tryz.func97,Tryz.ntmps97
   go_wp2_with fail
   go_ret;exact ⟨by rw [HF.out];rfl,aH⟩
 ·have HF:Hid (q=if z=false then 2 else 0):=aF (by rw [HQ.out];simp);clear HQ HT HD HC h0;cases z
  all_goals
   go_enter Tryz.func97,Tryz.ntmps97
   go_wp2_with (go_at_call 95;refine (HZ.out _).mono ?_;rintro e' w1 ⟨rfl,hb1⟩;have HB:=aF ((bel2 _ _ _).trans (hb1.mono (bel2 _ _ _).size));obtain ⟨z,y⟩:=cU hb1;obtain ⟨y0,y1,y2,y3⟩:=aP y;clear z y hb1)
   all_goals
    go_ret;exact ⟨by rw [HF.out];rfl,HB.out⟩
 ·cases z
  ·have HF:Hid (q=2):=aF (by rw [HQ.out];simp);clear HQ HT HD HC h0;go_enter Tryz.func97,Tryz.ntmps97
   go_wp2_with (go_at_call 95;refine (HZ.out _).mono ?_;rintro e' w1 ⟨rfl,hb1⟩;have HB:=aF ((bel2 _ _ _).trans (hb1.mono (bel2 _ _ _).size));obtain ⟨z,y⟩:=cU hb1;obtain ⟨y0,y1,y2,y3⟩:=aP y;clear z y hb1)
   all_goals
    go_ret;exact ⟨by rw [HF.out];rfl,HB.out⟩
  ·by_cases hn0:n=0
   ·have HF:Hid (q=0):=aF (by rw [HQ.out];simp [hn0]);subst hn0;clear HQ HT HD HC h0;go_enter Tryz.func97,Tryz.ntmps97
    go_wp2_with (go_at_call 95;refine (HZ.out _).mono ?_;rintro e' w1 ⟨rfl,hb1⟩;have HB:=aF ((bel2 _ _ _).trans (hb1.mono (bel2 _ _ _).size));obtain ⟨z,y⟩:=cU hb1;obtain ⟨y0,y1,y2,y3⟩:=aP y;clear z y hb1)
    all_goals
     go_ret;exact ⟨by rw [HF.out];rfl,HB.out⟩
   ·have e5:(n != 0)=true:=by simp [hn0]
    by_cases hn1:n=1
    ·have HF:Hid (q=0):=aF (by rw [HQ.out];simp [hn1]);subst hn1;clear HQ HT HD HC h0 e5;go_enter Tryz.func97,Tryz.ntmps97
     go_wp2_with (go_at_call 95;refine (HZ.out _).mono ?_;rintro e' w1 ⟨rfl,hb1⟩;have HB:=aF ((bel2 _ _ _).trans (hb1.mono (bel2 _ _ _).size));obtain ⟨z,y⟩:=cU hb1;obtain ⟨y0,y1,y2,y3⟩:=aP y;clear z y hb1)
     all_goals
      go_ret;exact ⟨by rw [HF.out];rfl,HB.out⟩
    ·have HF:Hid (q=3):=aF (by rw [HQ.out];simp [hn0,hn1]);have e6:(n != 1)=true:=by simp [hn1]
     clear HQ HT HD HC h0 hn0 hn1;go_enter Tryz.func97,Tryz.ntmps97
     go_wp2_with (go_at_call 95;refine (HZ.out _).mono ?_;rintro e' w1 ⟨rfl,hb1⟩;have HB:=aF ((bel2 _ _ _).trans (hb1.mono (bel2 _ _ _).size));obtain ⟨z,y⟩:=cU hb1;obtain ⟨y0,y1,y2,y3⟩:=aP y;clear z y hb1)
     all_goals
      go_ret;exact ⟨by rw [HF.out];rfl,HB.out⟩
 ·by_cases hn:n=0
  ·subst hn;have HF:Hid (q=if z=false then 2 else 0):=aF (by rw [HQ.out];simp);clear HQ HT HD HC h0;cases z
   all_goals
    go_enter Tryz.func97,Tryz.ntmps97
    go_wp2_with (go_at_call 95;refine (HZ.out _).mono ?_;rintro e' w1 ⟨rfl,hb1⟩;have HB:=aF ((bel2 _ _ _).trans (hb1.mono (bel2 _ _ _).size));obtain ⟨z,y⟩:=cU hb1;obtain ⟨y0,y1,y2,y3⟩:=aP y;clear z y hb1)
    all_goals
     go_ret;exact ⟨by rw [HF.out];rfl,HB.out⟩
  ·have HF:Hid (q=2):=aF (by rw [HQ.out];simp [hn]);have e5:(n != 0)=true:=by simp [hn]
   clear HQ HZ HD h0 HC HT hn;go_enter Tryz.func97,Tryz.ntmps97
   go_wp2_with fail
   go_ret;exact ⟨by rw [HF.out];rfl,aH⟩
theorem gO {b:Bdy} {bh:BH} {w:World} (H:BdAt w b bh) (hok:DeclOk b) (o:Opd) (k0:Int) (A:Option Addr) (c:Nat) (hp:Slc 2 RPj w A c o.place.proj) (ho:opE b o=0):
 Calls Tryz.prog 98 #[.agg (bdC b bh).toArray,.agg (opC o A c).toArray,.int .i64 k0] w fun e' w'=>e' = .returned (.bool (decide (kindO b o=k0)))/\Below w.heap.size w w':=by
 have HT:=aF (fun W (hb:Below w.heap.size w W)=>eF b bh o.place A c W (H.keep hb) (hp.keep RPj.keeps hb) hok.okay);have hkd:=rQ ho;have hty:=rP ho;have HQ:Hid (kindO b o=if o.kind=2 then 2 else if o.kind=3 then 1 else if o.kind=4 then 0 else kindT b (tyB b o.place).1):=aF rfl;have HS:=aF H.typ;have hin:=fW hok.okay (l:=o.place.loc) (ps:=o.place.proj);change (tyB b o.place).2=0->0<=(tyB b o.place).1/\(tyB b o.place).1<b.types.length at hin;generalize kindO b o=q at HQ ⊢;generalize tyB b o.place=t at HT HQ hty hin;obtain ⟨t,e⟩:=t;simp only at HQ hty hin;obtain ⟨k,hk⟩:∃k,o.kind=k:=⟨_,rfl⟩;rw [hk] at hkd hty HQ;have hle3:=H.typ.le;have hbig3:=H.typ.big;clear H hp ho;unfold opC;rw [hk];clear hk;by_cases h01:k=0\/k=1
 ·obtain rfl:e=0:=hty (by omega) (by omega) (by omega);obtain ⟨g1,g2⟩:=hin rfl;obtain ⟨i,rfl⟩:=bG g1;have hlt:i<b.types.length:=by omega
  obtain ⟨bb,oo,hA3,hbb,hx⟩:=HS.out.sl.at_ hlt;have HF:Hid (q=b.types[i].kind):=aF (by rw [HQ.out,aZ (by omega),aZ (by omega),aZ (by omega),kindT];simp [hlt]);generalize b.types[i]=ty at hx HF;obtain ⟨r1,-⟩:=hx;unfold bdC at *;rw [hA3] at HT ⊢;clear HQ HS hty hin g1;rcases h01 with rfl | rfl
  all_goals
   go_enter Tryz.func98,Tryz.ntmps98
   go_wp2_with (go_at_call 92;refine (HT.out _ (bel2 _ _ _)).mono ?_;rintro e' w1 ⟨rfl,hb1⟩;have HB:=aF ((bel2 _ _ _).trans (hb1.mono (bel2 _ _ _).size));obtain ⟨y,-⟩:=cU hb1;have y3:=y 3 _ rfl;have x1:=cO HB.out r1;clear y hb1)
   all_goals
    go_ret;refine ⟨?_,HB.out⟩;rw [HF.out];refine congrArg (fun b=>Ending.returned (Value.bool b)) ?_;rw [bQ];simp
 ·have HF:Hid (q=if k=2 then 2 else if k=3 then 1 else 0):=aF (by
   rw [HQ.out]
   rcases (show k=2\/k=3\/k=4 by omega) with rfl | rfl | rfl <;> simp)
  clear HQ HS hty hin HT;unfold bdC;rcases (show k=2\/k=3\/k=4 by omega) with rfl | rfl | rfl
  all_goals
   go_enter Tryz.func98,Tryz.ntmps98
   go_wp2_with fail
   all_goals
    go_ret;refine ⟨?_,aH⟩;rw [HF.out];refine congrArg (fun b=>Ending.returned (Value.bool b)) ?_;simp;try rw [bQ]
    try simp
    try omega
theorem nM {b:Bdy} {bh:BH} {w:World} (H:Rk w b bh) (o:Opd) (f:Nat) (A:Option Addr) (c:Nat) (hp:Slc 2 RPj w A c o.place.proj) (ho:opE b o=0) (hf:f<b.types.length):
 Calls Tryz.prog 130 #[.agg (bdC b bh).toArray,.agg (opC o A c).toArray,.int .i64 f] w fun e' w'=>e' = .returned (.bool (fitsO b o f))/\Below w.heap.size w w':=by
 have HT:=aF (fun W (hb:Below w.heap.size w W)=>eF b bh o.place A c W (H.keep hb).at_ (hp.keep RPj.keeps hb) H.ok.okay);have HK:=aF (fun W (hb:Below w.heap.size w W) (q:Int)=>gO (H.keep hb).at_ H.ok o q A c (hp.keep RPj.keeps hb) ho);have HS:=aF (fun W (hb:Below w.heap.size w W) (i:Int)=>rD b H.ok (i.toNat+(f:Int).toNat+1) i f (by omega) bh.A3 bh.A2 bh.c3 bh.c2 W (H.keep hb).at_.typ (H.keep hb).at_.out);have hkd:=rQ ho;have hty:=rP ho;have hle1:=H.at_.reg.le;have hbg1:=H.at_.reg.big;have hle3:=H.at_.typ.le;have hbig3:=H.at_.typ.big;obtain ⟨bb,oo,hA3,hbb,hx⟩:=H.at_.typ.sl.at_ hf;have hkt:kindT b (f:Int)=b.types[f].kind:=by unfold kindT;simp [hf]
 have HQ:Hid (fitsO b o f=if o.kind≠0/\o.kind≠1 then decide (kindO b o=b.types[f].kind) else subB b (tyB b o.place).1 f):=aF (by rw [<- hkt];rfl);obtain ⟨ty,hty2⟩:∃ty,b.types[f]=ty:=⟨_,rfl⟩;rw [hty2] at hx HQ;obtain ⟨r1,-⟩:=hx;generalize fitsO b o f=q at HQ ⊢;generalize tyB b o.place=t at HT HQ hty;generalize kindO b o=ko at HK HQ;obtain ⟨t,e⟩:=t;simp only at HQ hty;obtain ⟨k,hk⟩:∃k,o.kind=k:=⟨_,rfl⟩;rw [hk] at hkd hty HQ;clear H hp ho hkt hty2;unfold bdC at *;unfold opC at *;rw [hk] at HK ⊢;rw [hA3] at HT HK HS ⊢;clear hk;by_cases h01:k=0\/k=1
 ·obtain rfl:e=0:=hty (by omega) (by omega) (by omega);have HF:Hid (q=subB b t f):=aF (by rw [HQ.out,aZ (by omega)]);have HC:=aF (fun W hb=>HS.out W hb t);generalize subB b t f=sb at HF HC;clear HQ HS HK hty;rcases h01 with rfl | rfl
  all_goals
   go_enter Tryz.func130,Tryz.ntmps130
   go_wp2_with (first
    | (go_at_call 92;refine (HT.out _ (bel2 _ _ _)).mono ?_;rintro e' w1 ⟨rfl,hb1⟩;have HB:=aF ((bel2 _ _ _).trans (hb1.mono (bel2 _ _ _).size));obtain ⟨y,-⟩:=cU hb1;obtain ⟨-,y1,y2,y3⟩:=aP y;clear y hb1)
    | (go_at_call 169;refine (HC.out _ HB.out).mono ?_;rintro e' w2 ⟨rfl,hb2⟩;have HB2:=aF (HB.out.trans (hb2.mono HB.out.size));clear hb2))
   go_ret;exact ⟨by rw [HF.out];rfl,HB2.out⟩
 ·have HF:Hid (q=decide (ko=ty.kind)):=aF (by rw [HQ.out,bA ⟨fun h=>h01 (Or.inl h),fun h=>h01 (Or.inr h)⟩]);have e0:(1:Int)<k:=by omega
  clear HQ HS HT hty;have HB0:=aF ((bel2 w (.cells ([Value.string b.name,.slice bh.A1 b.regions.length bh.c1,.slice bh.A2 b.outl.length bh.c2,.slice (some ⟨bb,oo,none⟩) b.types.length bh.c3,.slice bh.A4 b.locals.length bh.c4,.int .i64 b.args,.slice bh.A5 b.blocks.length bh.c5]:List Value).toArray 28) (.cells ([Value.int .i64 k,.int .i64 o.place.loc,.slice A o.place.proj.length c,.int .i64 o.n]:List Value).toArray 69)).drew);have hcc:=cU (w:=w) (l1:=[Value.string b.name,.slice bh.A1 b.regions.length bh.c1,.slice bh.A2 b.outl.length bh.c2,.slice (some ⟨bb,oo,none⟩) b.types.length bh.c3,.slice bh.A4 b.locals.length bh.c4,.int .i64 b.args,.slice bh.A5 b.blocks.length bh.c5]) (l2:=[Value.int .i64 k,.int .i64 o.place.loc,.slice A o.place.proj.length c,.int .i64 o.n]) (t1:=28) (t2:=69) ((aX _ _).drew);have HCC:=aF hcc;clear hcc;go_enter Tryz.func130,Tryz.ntmps130
  go_wp2_with fail
  have hS:=bJ HCC.out.1 (bJ HCC.out.2 (cO HB0.out r1));refine cT (S:=fun X=>(aA (bdM b bh.A1 bh.c1 bh.A2 bh.c2 (some ⟨bb,oo,none⟩) bh.c3 bh.A4 bh.c4 bh.A5 bh.c5 []) X w.heap.size)/\(aA [Value.int .i64 k,.int .i64 o.place.loc,.slice A o.place.proj.length c,.int .i64 o.n] X (w.heap.size+1))/\X.cell? ⟨bb,oo+f * 5,none⟩=some (.int .i64 ty.kind)) [0,1,2,3,4,5,6,7,8,9] (by kernel_rfl) ?_;(iterate 8 (refine cR (v:=?_) ?_ hS ?_;rotate_left;(next=>(rintro X ⟨hX,hY,hZ⟩;obtain ⟨s0,s1,s2,s3,s4,s5,s6⟩:=aS hX;obtain ⟨u0,u1,u2,u3⟩:=aP hY;(try simp only [aI]);go_simp;rfl));simp only [aM]));(refine cY (fun K1 hK1=>?_);simp only [aM];rw [bA (by rfl)];go_simp);refine (HK.out _ HB0.out ty.kind).mono ?_;rintro e' w2 ⟨rfl,hb⟩;replace hS:=bJ (cP hS.1 hb) (bJ (cP hS.2.1 hb) (cO hb hS.2.2));have HB3:=aF (HB0.out.trans (hb.mono HB0.out.size));clear hb;refine hK1.out _ _ (fun _=>hS) ?_;((refine cR (v:=?_) ?_ hS ?_;rotate_left;(next=>(rintro X -;(try simp only [aI]);go_simp;rfl));simp only [aM]))
  refine cZ ?_;go_wp2_with fail
  go_ret;exact ⟨by rw [HF.out];rfl,HB3.out⟩
end
section
open Go Go.RowKit Go.Maps
def OwnI (w:World) (b n:Nat) (sl:List Int):Prop:=
 ∃D:DataW Unit,w.ownsMap Tryz.prog 3 (plainElem Tryz.prog 4) b n D/\(∀kl,D.atKey kl (.lit (.bool false)) = .lit (.bool (i64F (inF sl) kl)))/\∀kl,Maps.has D kl=i64F (inF sl) kl
section
variable {w:World} {b n:Nat} {sl:List Int}
theorem OwnI.made (w:World):OwnI (w.alloc (.map #[] 0)) w.heap.size 0 []:=
 ⟨.map [],World.ownsMap_made w _ _ _,fun kl=>by rw [mK];rfl,fun kl=>by rw [mK];rfl⟩
theorem OwnI.toB (h:OwnI w b n sl):OwnB Tryz.prog 3 4 w b n (i64F (inF sl)):=by
 obtain ⟨D,h1,h2,_⟩:=h;exact ⟨D,h1,h2⟩
theorem OwnI.lt (h:OwnI w b n sl):b<w.heap.size:=h.toB.lt
theorem OwnI.block {w':World} (h:OwnI w b n sl) (hb:w'.heap[b]?=w.heap[b]?):OwnI w' b n sl:=by
 obtain ⟨D,⟨es,clock,h1,h3,h4,h5⟩,h2⟩:=h;exact ⟨D,⟨es,clock,hb.trans h1,h3,h4,h5⟩,h2⟩
theorem OwnI.below {w':World} (h:OwnI w b n sl) (hb:Below w.heap.size w w'):OwnI w' b n sl:=h.block (hb.block b h.lt)
theorem OwnI.alloc (h:OwnI w b n sl) (o:Obj):OwnI (w.alloc o) b n sl:=h.below ((aX _ _).alloc (aY _) _)
theorem OwnI.mono {m:Nat} (h:OwnI w b n sl) (hm:n<=m):OwnI w b m sl:=by
 obtain ⟨D,h1,h2⟩:=h;exact ⟨D,h1.mono hm,h2⟩
theorem OwnI.store (h:OwnI w b n sl) (hn:n<maxLen) {x:Int} (hkey:keyOf Tryz.prog 3 (.int .i64 x)=some (.int .i64 x)):
 ∃w',(Instr.mapUpdate 75 (.map (some b)) (.int .i64 x) (.bool true)).run Tryz.prog w = .ok () w'/\OwnI w' b (n+1) (x :: sl)/\w.grownBy w' (some b):=by
 obtain ⟨D,h1,h2,h3⟩:=h;obtain ⟨w',hrun,g1,g2⟩:=h1.update law3 Tryz.underlying75 hn hkey (jW Tryz.underlying4 true);have hk:WideAt.IsKeyLit (Lit.int .i64 x):=trivial;refine ⟨w',hrun,⟨_,g1,fun kl=>?_,fun kl=>?_⟩,g2⟩
 ·by_cases e:kl=Lit.int .i64 x
  ·subst e;rw [atKey_put_same h1.isMap hk,iA]
  ·rw [atKey_put_other e,jC _ _ _ e,h2]
 ·by_cases e:kl=Lit.int .i64 x
  ·subst e;rw [has_put_same h1.isMap hk,iA]
  ·rw [has_put_other e,jC _ _ _ e,h3]
end
theorem eA (w:World) {ops:Array Oper} {rest:List Oper} {o:Oper} {a:Act} {Q:Exit->Act->World->Prop}
 (hg:o.guard=none) (m x v:Operand) (hop:o.op=Op.mapUpdate 75 m x v) (b n:Nat) (sl:List Int)
 (hm:a.eval m = .map (some b)) (hown:OwnI w b n sl) (hn:n<maxLen) (key:Int) (hx:a.eval x = .int .i64 key) (hv:a.eval v = .bool true) (hkey:keyOf Tryz.prog 3 (.int .i64 key)=some (.int .i64 key))
 (hK:∀w',OwnI w' b (n+1) (key :: sl)->w.grownBy w' (some b)->wpList Tryz.prog ops Q rest (a.put o.dst undef) w'):
 wpList Tryz.prog ops Q (o :: rest) a w:=by
 refine wpList_plain hg fun K' hK'=>?_
 obtain ⟨w',hrun,r1,r2⟩:=hown.store hn hkey;unfold Oper.wp;simp [execOp,hop,hm,hx,hv,hrun,Result.andThen];exact hK' _ _ (hK w' r1 r2)
def RngI (w:World) (b r n:Nat) (sl:List Int) (left:Int->Bool) (cnt:Nat):Prop:=
 ∃D:DataW Unit,∃lf:Lit->Bool,w.ranges Tryz.prog 3 (plainElem Tryz.prog 4) b r n D lf cnt/\(∀kl,Maps.has D kl=i64F (inF sl) kl)/\(∀x,lf (.int .i64 x)=left x)/\∀kl,lf kl=true->∃x,kl = .int .i64 x
section
variable {w:World} {b r n:Nat} {sl:List Int} {left:Int->Bool} {cnt:Nat}
theorem RngI.kept {w':World} (h:RngI w b r n sl left cnt) (hb:w'.heap[b]?=w.heap[b]?) (hr:w'.heap[r]?=w.heap[r]?):RngI w' b r n sl left cnt:=by
 obtain ⟨D,lf,⟨es,clock,since,seen,c0,g1,F,hs,hD,g2,rest⟩,h2⟩:=h;exact ⟨D,lf,⟨es,clock,since,seen,c0,hb.trans g1,F,hs,hD,hr.trans g2,rest⟩,h2⟩
theorem RngI.left_eq (h:RngI w b r n sl left cnt):w.rangeLeft b r=cnt:=by
 obtain ⟨D,lf,h1,_⟩:=h;exact h1.left_eq
theorem RngI.lt (h:RngI w b r n sl left cnt):r<w.heap.size/\b<w.heap.size/\r≠b:=by
 obtain ⟨D,lf,h1,_⟩:=h;exact ⟨h1.lt,h1.owns.lt,h1.ne⟩
theorem RngI.below {w':World} (h:RngI w b r n sl left cnt) (hb:Below w.heap.size w w'):RngI w' b r n sl left cnt:=h.kept (hb.block b h.lt.2.1) (hb.block r h.lt.1)
end
theorem lY (w:World) {ops:Array Oper} {rest:List Oper} {o:Oper} {a:Act} {Q:Exit->Act->World->Prop} (hg:o.guard=none) (m:Operand) (hop:o.op=Op.range 75 m) (b n:Nat) (sl:List Int)
 (hm:a.eval m = .map (some b)) (hown:OwnI w b n sl)
 (hK:∀w' cnt,RngI w' b w.heap.size n sl (fun x=>decide (x∈sl)) cnt->w.grownBy w' none->w'.heap.size=w.heap.size+1->wpList Tryz.prog ops Q rest (a.put o.dst (.pointer (some ⟨w.heap.size,0,none⟩))) w'):
 wpList Tryz.prog ops Q (o :: rest) a w:=by
 obtain ⟨D,h1,h2,h3⟩:=hown;refine wpList_range_own w hg m 75 hop 3 4 law3 Tryz.underlying75 _ b n D hm h1 (fun w' g1 g2 g3=>hK w' _ ⟨D,_,g1,h3,fun x=>by rw [h3];rfl,fun kl hkl=>?_⟩ g2 g3);rw [h3] at hkl;unfold i64F at hkl;split at hkl
 ·exact ⟨_,rfl⟩
 ·cases hkl
theorem mV (w:World) {ops:Array Oper} {rest:List Oper} {o:Oper} {a:Act} {Q:Exit->Act->World->Prop} (hg:o.guard=none) (it:Operand) (hop:o.op=Op.next it false) (b r n:Nat) (sl:List Int) (left:Int->Bool) (cnt:Nat)
 (hit:a.eval it = .pointer (some ⟨r,0,none⟩)) (h:RngI w b r n sl left cnt)
 (hDone:(∀x,left x=false)->wpList Tryz.prog ops Q rest (a.put o.dst (.tuple #[.bool false])) w)
 (hMore:∀(x:Int) (c:Bool) (w':World) (cnt':Nat),(Lit.int .i64 x).wf=true->left x=true->x∈sl->RngI w' b r n sl (fun z=>left z && decide (z≠x)) cnt'->cnt'<cnt->
   w.grownBy w' (some r)->w'.heap.size=w.heap.size->(Instr.entry (.pointer (some ⟨r,0,none⟩))).run Tryz.prog w' = .ok (.tuple #[.int .i64 x,.bool c]) w'->wpList Tryz.prog ops Q rest (a.put o.dst (.tuple #[.bool true,.int .i64 x,.bool c])) w'):
 wpList Tryz.prog ops Q (o :: rest) a w:=by
 obtain ⟨D,lf,h1,h2,h3,h4⟩:=h
 refine wpList_next_ranges w hg it hop 3 law3 (plainElem Tryz.prog 4) (Value.int .i64) Value.bool (fun key kl hkey=>by obtain ⟨x,rfl,_⟩:=Maps.keyOf_int_inv Tryz.underlying3 hkey;exact ⟨x,rfl⟩) (fun v y hv=>by obtain ⟨x,rfl,_⟩:=iL Tryz.underlying4 hv;exact ⟨x,rfl⟩)
  b r n D lf cnt hit h1 (fun _ hl=>hDone (fun x=>by rw [<- h3];exact hl _)) (fun x c kl y w' cnt' hkey hlk hv hat hrg hlt hgr hsz hen=>?_)
 obtain ⟨x',e,rfl,hwx⟩:=Maps.keyOf_int_inv Tryz.underlying3 hkey;cases e
 refine hMore x c w' cnt' hwx (by rw [<- h3];exact hlk) ?_ ⟨D,_,hrg,h2,fun z=>?_,fun kl hkl=>h4 kl (by simp at hkl;exact hkl.1)⟩ hlt hgr hsz hen
 ·have:=h2 (.int .i64 x);rw [has_true_of_atKey hat] at this;simpa [i64F,inF] using this.symm
 ·simp [h3,Lit.sameKey]
end
end Go.Proofs.YtcfchohkmkilpaaGreatDoor
