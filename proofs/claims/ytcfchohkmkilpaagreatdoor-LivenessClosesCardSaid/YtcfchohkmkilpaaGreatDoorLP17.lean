/-
  Parts of the proof: HL HO HP HQ HE.
-/
import Derived.Test.YtcfchohkmkilpaaGreatDoorLP0
import Derived.Test.YtcfchohkmkilpaaGreatDoorLP16
import Derived.Test.YtcfchohkmkilpaaGreatDoorLP13
import Derived.Test.YtcfchohkmkilpaaGreatDoorLP12
import Derived.Test.YtcfchohkmkilpaaGreatDoorLP5
import Derived.Test.YtcfchohkmkilpaaGreatDoorLP6
import Derived.Laws.AppendOwnNone
import Derived.Maps.OwnIn
namespace Go.Proofs.YtcfchohkmkilpaaGreatDoor
set_option maxRecDepth 100000
set_option maxHeartbeats 16000000
section
open Go Go.RowKit Go.Maps
theorem ifU_t {c:Prop} [Decidable c] {x:Int} (h:c):ifU c x=[x]:=by unfold ifU;rw [bA h]
theorem ifU_f {c:Prop} [Decidable c] {x:Int} (h:¬c):ifU c x=[]:=by unfold ifU;rw [aZ h]
theorem iI (w:World):Slc 1 RInt w none 0 ([]:List Int):=⟨fun h=>absurd h (by simp),by simp,by simp⟩
theorem zL (b:Bdy) (bh:BH) (p:Int) (w:World) (H:BdAt w b bh) (hc:cntB b.blocks<=1000000000000) (hp : -9223372036854775808<=p/\p<=9223372036854775807) (hu:∀z∈usP b.blocks p,0<=z/\z<((1000000:Nat):Int)):
 Calls Tryz.prog 15 #[.agg (bdC b bh).toArray,.int .i64 p] w fun e' w'=>∃A c,e' = .returned (.slice A (insL [] (usP b.blocks p)).length c)/\Slc 1 RInt w' A c (insL [] (usP b.blocks p))/\Below w.heap.size w w':=by
 have HL:=aF (fun (W:World) (hb:Below w.heap.size w W)=>rE b bh p W (H.keep hb) hc hp);have HIN:=aF (fun (s:List Int) (x:Int) (A:Option Addr) (c:Nat) (W:World) h g=>wU s x A c W h g);have HBLK:=aF H.blk;have hbl:=H.blk.le;have hbg:=H.blk.big;have HY:=aF (cQ w [Value.string b.name,.slice bh.A1 b.regions.length bh.c1,.slice bh.A2 b.outl.length bh.c2,.slice bh.A3 b.types.length bh.c3,.slice bh.A4 b.locals.length bh.c4,.int .i64 b.args,.slice bh.A5 b.blocks.length bh.c5] 28);clear H hc;unfold bdC at *;cases hloc:locB b.blocks p with
 | none=>
   rw [iC hloc];rw [hloc] at HL;unfold lcV at HL;clear hloc;go_enter Tryz.func15,Tryz.ntmps15
   go_wp2_with (go_at_call 35;refine (HL.out _ ((aX _ _).alloc (aY _) _)).mono ?_;rintro e' w1 ⟨rfl,hb1⟩)
   go_ret;exact ⟨none,0,rfl,iI _,((aX _ _).alloc (aY _) _).trans (hb1.mono (by simp))⟩
 | some ik=>
   obtain ⟨i,k⟩:=ik;obtain ⟨x,hx,hk,hi⟩:=mI hloc;rw [uR hloc hx] at hu ⊢;rw [hloc] at HL;unfold lcV at HL;obtain ⟨bb,oo,hA,hbb,hxx⟩:=HBLK.out.sl.at_ hi;obtain ⟨A1,c1,A2,c2,A3,c3,A4,c4,p0,p1,p2,p3,p4,p5,p6,hs1,hs2,hs3,-⟩:=eV hxx;rw [show b.blocks[i]=x from by rw [bD hi] at hx;injection hx] at p0 p1 p2 p3 p4 p5 p6 hs1 hs2 hs3;rw [hA] at HL HY ⊢;clear hA hxx hs2 hloc hx;have hal:Below w.heap.size w (w.alloc (.cells ([Value.string b.name,.slice bh.A1 b.regions.length bh.c1,.slice bh.A2 b.outl.length bh.c2,.slice bh.A3 b.types.length bh.c3,.slice bh.A4 b.locals.length bh.c4,.int .i64 b.args,.slice (some ⟨bb,oo,none⟩) b.blocks.length bh.c5]).toArray 28)):=(aX _ _).alloc (aY _) _;have HAL:=aF hal;have HP:=aF (bJ p0 (bJ p1 (bJ p2 (bJ p3 (bJ p4 (bJ p5 p6))))));have hki:(i:Int)<(b.blocks.length:Int):=by omega
   clear p0 p1 p2 p3 p4 p5 p6;obtain ⟨U,hU⟩:∃U,usB x k=U:=⟨_,rfl⟩;rw [hU] at hu ⊢;have HU:=aF hu;clear hu;by_cases hks:k<x.stmts.length
   ·have hks2:(k:Int)<(x.stmts.length:Int):=(by omega);obtain ⟨sb,so,hSA,hsb,hss⟩:=hs1.sl.at_ hks;obtain ⟨A0,c0,A,c,B,d,q0,q1,q2,q3,q4,q5,q6,q7,q8,q9,q10,-,-,hsa⟩:=iY hss;have HD:Hid (U=usS x.stmts[k]):=aF (by rw [<- hU];unfold usB;rw [bD hks]);have HQ:=aF (bJ q0 (bJ q1 (bJ q2 (bJ q3 (bJ q4 (bJ q5 (bJ q6 (bJ q7 (bJ q8 (bJ q9 q10))))))))));rw [hSA] at HP;clear q0 q1 q2 q3 q4 q5 q6 q7 q8 q9 q10 hss hs1 hU hs3;generalize x.stmts[k]=s at *;have HSA:=aF hsa;have hxl:=hsa.le;have hxb:=hsa.big;have HD2:Hid (U=if s.kind=0 then opU s.rv.args ++ ifU (s.rv.kind=1) s.rv.place.loc ++ ifU (0<s.place.proj.length) s.place.loc else []):=aF (by rw [HD.out];rfl);clear hsa HD;generalize s.kind=kd at *;generalize s.rv.args=xs at *;generalize s.rv.kind=rk at *;generalize s.rv.place.loc=rl at *;generalize s.place.loc=pl at *;generalize s.place.proj.length=n at *;by_cases h0:kd=0
    case neg=>
     have HE:Hid (U=[]):=aF (by rw [HD2.out,aZ h0]);have hk0:(kd == 0)=false:=by simp [h0]
     go_enter Tryz.func15,Tryz.ntmps15
     go_wp2_with (go_at_call 35;refine (HL.out _ hal).mono ?_;rintro e' w1 ⟨rfl,hb1⟩;have hbw:=HAL.out.trans (hb1.mono HAL.out.size);have y6:=cO hb1 (HY.out 6 _ rfl);have m0:=cO hbw HP.out.1;have r0:=cO hbw HQ.out.1;have r1:=cO hbw HQ.out.2.1;have r2:=cO hbw HQ.out.2.2.1;have r3:=cO hbw HQ.out.2.2.2.1;have r4:=cO hbw HQ.out.2.2.2.2.1;have r5:=cO hbw HQ.out.2.2.2.2.2.1;have r6:=cO hbw HQ.out.2.2.2.2.2.2.1;have r7:=cO hbw HQ.out.2.2.2.2.2.2.2.1;have r8:=cO hbw HQ.out.2.2.2.2.2.2.2.2.1;have r9:=cO hbw HQ.out.2.2.2.2.2.2.2.2.2.1;have r10:=cO hbw HQ.out.2.2.2.2.2.2.2.2.2.2;have hl1:=hbw.size)
     go_ret;exact ⟨none,0,by rw [HE.out];rfl,by rw [HE.out];exact iI _,hbw.alloc hl1 _⟩
    case pos=>
    subst h0;have HD3:Hid (U=opU xs ++ ifU (rk=1) rl ++ ifU (0<n) pl):=aF (by rw [HD2.out,bA rfl]);have HX:Hid (∀z∈opU xs,0<=z/\z<((1000000:Nat):Int)):=aF (fun z hz=>HU.out z (by rw [HD3.out];simp [hz]));have HSM:Hid (Sm (insL [] (opU xs))):=aF (Sm.nil.insL HX.out);have HRA:Hid (∀W,Below w.heap.size w W->Calls Tryz.prog 38 #[.slice none 0 0,.slice B xs.length d] W fun e' w'=>∃A' c',e' = .returned (.slice A' (insL [] (opU xs)).length c')/\Slc 1 RInt w' A' c' (insL [] (opU xs))/\Below W.heap.size W w'):=aF (fun W hb=>rJ [] xs none 0 B d W (iI W) (HSA.out.keep ROp.keeps hb) Sm.nil HX.out);clear HD2;by_cases h1:rk=1
    ·subst h1;have HSM6:Hid (Sm (insI rl (insL [] (opU xs)))):=aF (HSM.out.ins (HU.out rl (by rw [HD3.out,ifU_t rfl];simp)));by_cases h2:n=0
     ·subst h2;have HE:Hid (insL [] U=insI rl (insL [] (opU xs))):=aF (by rw [HD3.out,ifU_t rfl,ifU_f (by omega),List.append_nil,fG]);go_enter Tryz.func15,Tryz.ntmps15
      go_wp2_with (first | (go_at_call 35;refine (HL.out _ hal).mono ?_;rintro e' w1 ⟨rfl,hb1⟩;have hbw:=HAL.out.trans (hb1.mono HAL.out.size);have y6:=cO hb1 (HY.out 6 _ rfl);have m0:=cO hbw HP.out.1;have r0:=cO hbw HQ.out.1;have r1:=cO hbw HQ.out.2.1;have r2:=cO hbw HQ.out.2.2.1;have r3:=cO hbw HQ.out.2.2.2.1;have r4:=cO hbw HQ.out.2.2.2.2.1;have r5:=cO hbw HQ.out.2.2.2.2.2.1;have r6:=cO hbw HQ.out.2.2.2.2.2.2.1;have r7:=cO hbw HQ.out.2.2.2.2.2.2.2.1;have r8:=cO hbw HQ.out.2.2.2.2.2.2.2.2.1;have r9:=cO hbw HQ.out.2.2.2.2.2.2.2.2.2.1;have r10:=cO hbw HQ.out.2.2.2.2.2.2.2.2.2.2;have hl1:=hbw.size) | (go_at_call 38;refine (HRA.out _ (hbw.alloc hl1 _)).mono ?_;rintro e' w2 ⟨A5,c5,rfl,hs5,hb2⟩;have HS5:=aF hs5;have HB2:=aF ((hbw.alloc hl1 _).trans (hb2.mono (by simp;omega)));have HZ:=aF (fun i v hi=>cO hb2 (cQ w1 [Value.int .i64 0,.int .i64 pl,.slice A0 0 c0,.int .i64 1,.int .i64 s.rv.op,.int .i64 s.rv.reg,.bool s.rv.mu,.int .i64 rl,.slice A s.rv.place.proj.length c,.slice B xs.length d,.int .i64 s.loc] 73 i v hi));obtain ⟨-,u1,u2,u3,-,-,-,u7⟩:=aT HZ.out;clear r0 r1 r2 r3 r4 r5 r6 r7 r8 r9 r10 y6 m0 hs5;clear hb2 hbw hb1 hl1) | (go_at_call 39;refine (HIN.out (insL [] (opU xs)) rl A5 c5 _ HS5.out HSM.out.len).mono ?_;rintro e' w3 ⟨A6,c6,rfl,hs6,hb3⟩;have HS6:=aF hs6;have HB3:=aF (HB2.out.trans (hb3.mono HB2.out.size));clear u1 u2 u3 u7 hs6;have u1:=cO hb3 (HZ.out 1 _ rfl);have u2:=cO hb3 (HZ.out 2 _ rfl);clear hb3))
      go_ret;exact ⟨A6,c6,by rw [HE.out];rfl,by rw [HE.out];exact HS6.out,HB3.out⟩
     ·have hn:0<(n:Int):=(by omega);have HE:Hid (insL [] U=insI pl (insI rl (insL [] (opU xs)))):=aF (by rw [HD3.out,ifU_t rfl,ifU_t (by omega),fG,fG]);go_enter Tryz.func15,Tryz.ntmps15
      go_wp2_with (first | (go_at_call 35;refine (HL.out _ hal).mono ?_;rintro e' w1 ⟨rfl,hb1⟩;have hbw:=HAL.out.trans (hb1.mono HAL.out.size);have y6:=cO hb1 (HY.out 6 _ rfl);have m0:=cO hbw HP.out.1;have r0:=cO hbw HQ.out.1;have r1:=cO hbw HQ.out.2.1;have r2:=cO hbw HQ.out.2.2.1;have r3:=cO hbw HQ.out.2.2.2.1;have r4:=cO hbw HQ.out.2.2.2.2.1;have r5:=cO hbw HQ.out.2.2.2.2.2.1;have r6:=cO hbw HQ.out.2.2.2.2.2.2.1;have r7:=cO hbw HQ.out.2.2.2.2.2.2.2.1;have r8:=cO hbw HQ.out.2.2.2.2.2.2.2.2.1;have r9:=cO hbw HQ.out.2.2.2.2.2.2.2.2.2.1;have r10:=cO hbw HQ.out.2.2.2.2.2.2.2.2.2.2;have hl1:=hbw.size) | (go_at_call 38;refine (HRA.out _ (hbw.alloc hl1 _)).mono ?_;rintro e' w2 ⟨A5,c5,rfl,hs5,hb2⟩;have HS5:=aF hs5;have HB2:=aF ((hbw.alloc hl1 _).trans (hb2.mono (by simp;omega)));have HZ:=aF (fun i v hi=>cO hb2 (cQ w1 [Value.int .i64 0,.int .i64 pl,.slice A0 n c0,.int .i64 1,.int .i64 s.rv.op,.int .i64 s.rv.reg,.bool s.rv.mu,.int .i64 rl,.slice A s.rv.place.proj.length c,.slice B xs.length d,.int .i64 s.loc] 73 i v hi));obtain ⟨-,u1,u2,u3,-,-,-,u7⟩:=aT HZ.out;clear r0 r1 r2 r3 r4 r5 r6 r7 r8 r9 r10 y6 m0 hs5;clear hb2 hbw hb1 hl1) | (go_at_call 39;refine (HIN.out (insI rl (insL [] (opU xs))) pl A6 c6 _ HS6.out HSM6.out.len).mono ?_;rintro e' w4 ⟨A7,c7,rfl,hs7,hb4⟩) | (go_at_call 39;refine (HIN.out (insL [] (opU xs)) rl A5 c5 _ HS5.out HSM.out.len).mono ?_;rintro e' w3 ⟨A6,c6,rfl,hs6,hb3⟩;have HS6:=aF hs6;have HB3:=aF (HB2.out.trans (hb3.mono HB2.out.size));clear u1 u2 u3 u7 hs6;have u1:=cO hb3 (HZ.out 1 _ rfl);have u2:=cO hb3 (HZ.out 2 _ rfl);clear hb3))
      go_ret;exact ⟨A7,c7,by rw [HE.out];rfl,by rw [HE.out];exact hs7,HB3.out.trans (hb4.mono HB3.out.size)⟩
    ·have hr1:(rk == 1)=false:=by simp [h1]
     by_cases h2:n=0
     ·subst h2;have HE:Hid (insL [] U=insL [] (opU xs)):=aF (by rw [HD3.out,ifU_f h1,ifU_f (by omega),List.append_nil,List.append_nil]);go_enter Tryz.func15,Tryz.ntmps15
      go_wp2_with (first | (go_at_call 35;refine (HL.out _ hal).mono ?_;rintro e' w1 ⟨rfl,hb1⟩;have hbw:=HAL.out.trans (hb1.mono HAL.out.size);have y6:=cO hb1 (HY.out 6 _ rfl);have m0:=cO hbw HP.out.1;have r0:=cO hbw HQ.out.1;have r1:=cO hbw HQ.out.2.1;have r2:=cO hbw HQ.out.2.2.1;have r3:=cO hbw HQ.out.2.2.2.1;have r4:=cO hbw HQ.out.2.2.2.2.1;have r5:=cO hbw HQ.out.2.2.2.2.2.1;have r6:=cO hbw HQ.out.2.2.2.2.2.2.1;have r7:=cO hbw HQ.out.2.2.2.2.2.2.2.1;have r8:=cO hbw HQ.out.2.2.2.2.2.2.2.2.1;have r9:=cO hbw HQ.out.2.2.2.2.2.2.2.2.2.1;have r10:=cO hbw HQ.out.2.2.2.2.2.2.2.2.2.2;have hl1:=hbw.size) | (go_at_call 38;refine (HRA.out _ (hbw.alloc hl1 _)).mono ?_;rintro e' w2 ⟨A5,c5,rfl,hs5,hb2⟩;have HS5:=aF hs5;have HB2:=aF ((hbw.alloc hl1 _).trans (hb2.mono (by simp;omega)));have HZ:=aF (fun i v hi=>cO hb2 (cQ w1 [Value.int .i64 0,.int .i64 pl,.slice A0 0 c0,.int .i64 rk,.int .i64 s.rv.op,.int .i64 s.rv.reg,.bool s.rv.mu,.int .i64 rl,.slice A s.rv.place.proj.length c,.slice B xs.length d,.int .i64 s.loc] 73 i v hi));obtain ⟨-,u1,u2,u3,-,-,-,u7⟩:=aT HZ.out;clear r0 r1 r2 r3 r4 r5 r6 r7 r8 r9 r10 y6 m0 hs5;clear hb2 hbw hb1 hl1))
      go_ret;exact ⟨A5,c5,by rw [HE.out];rfl,by rw [HE.out];exact HS5.out,HB2.out⟩
     ·have hn:0<(n:Int):=(by omega);have HE:Hid (insL [] U=insI pl (insL [] (opU xs))):=aF (by rw [HD3.out,ifU_f h1,ifU_t (by omega),List.append_nil,fG]);go_enter Tryz.func15,Tryz.ntmps15
      go_wp2_with (first | (go_at_call 35;refine (HL.out _ hal).mono ?_;rintro e' w1 ⟨rfl,hb1⟩;have hbw:=HAL.out.trans (hb1.mono HAL.out.size);have y6:=cO hb1 (HY.out 6 _ rfl);have m0:=cO hbw HP.out.1;have r0:=cO hbw HQ.out.1;have r1:=cO hbw HQ.out.2.1;have r2:=cO hbw HQ.out.2.2.1;have r3:=cO hbw HQ.out.2.2.2.1;have r4:=cO hbw HQ.out.2.2.2.2.1;have r5:=cO hbw HQ.out.2.2.2.2.2.1;have r6:=cO hbw HQ.out.2.2.2.2.2.2.1;have r7:=cO hbw HQ.out.2.2.2.2.2.2.2.1;have r8:=cO hbw HQ.out.2.2.2.2.2.2.2.2.1;have r9:=cO hbw HQ.out.2.2.2.2.2.2.2.2.2.1;have r10:=cO hbw HQ.out.2.2.2.2.2.2.2.2.2.2;have hl1:=hbw.size) | (go_at_call 38;refine (HRA.out _ (hbw.alloc hl1 _)).mono ?_;rintro e' w2 ⟨A5,c5,rfl,hs5,hb2⟩;have HS5:=aF hs5;have HB2:=aF ((hbw.alloc hl1 _).trans (hb2.mono (by simp;omega)));have HZ:=aF (fun i v hi=>cO hb2 (cQ w1 [Value.int .i64 0,.int .i64 pl,.slice A0 n c0,.int .i64 rk,.int .i64 s.rv.op,.int .i64 s.rv.reg,.bool s.rv.mu,.int .i64 rl,.slice A s.rv.place.proj.length c,.slice B xs.length d,.int .i64 s.loc] 73 i v hi));obtain ⟨-,u1,u2,u3,-,-,-,u7⟩:=aT HZ.out;clear r0 r1 r2 r3 r4 r5 r6 r7 r8 r9 r10 y6 m0 hs5;clear hb2 hbw hb1 hl1) | (go_at_call 39;refine (HIN.out (insL [] (opU xs)) pl A5 c5 _ HS5.out HSM.out.len).mono ?_;rintro e' w4 ⟨A7,c7,rfl,hs7,hb4⟩))
      go_ret;exact ⟨A7,c7,by rw [HE.out];rfl,by rw [HE.out];exact hs7,HB2.out.trans (hb4.mono HB2.out.size)⟩
   ·have hks2:¬(k:Int)<(x.stmts.length:Int):=(by omega);have HD:Hid (U=usT x.term):=aF (by rw [<- hU];unfold usB;rw [cE (by omega)]);clear hU hs1;generalize x.term=s at *;have HSA:=aF hs3;have hxl:=hs3.le;have hxb:=hs3.big;have HD3:Hid (U=opU s.args ++ ifU (s.kind=4\/(s.kind=3/\0<s.place.proj.length)) s.place.loc):=aF (by rw [HD.out];rfl);clear hs3 HD;generalize s.kind=kd at *;generalize s.args=xs at *;generalize s.place.loc=pl at *;generalize s.place.proj.length=n at *;have HX:Hid (∀z∈opU xs,0<=z/\z<((1000000:Nat):Int)):=aF (fun z hz=>HU.out z (by rw [HD3.out];simp [hz]));have HSM:Hid (Sm (insL [] (opU xs))):=aF (Sm.nil.insL HX.out);have HRA:Hid (∀W,Below w.heap.size w W->Calls Tryz.prog 38 #[.slice none 0 0,.slice A3 xs.length c3] W fun e' w'=>∃A' c',e' = .returned (.slice A' (insL [] (opU xs)).length c')/\Slc 1 RInt w' A' c' (insL [] (opU xs))/\Below W.heap.size W w'):=aF (fun W hb=>rJ [] xs none 0 A3 c3 W (iI W) (HSA.out.keep ROp.keeps hb) Sm.nil HX.out);by_cases h4:kd=4
    ·subst h4;have HE:Hid (insL [] U=insI pl (insL [] (opU xs))):=aF (by rw [HD3.out,ifU_t (.inl rfl),fG]);go_enter Tryz.func15,Tryz.ntmps15
     go_wp2_with (first | (go_at_call 35;refine (HL.out _ hal).mono ?_;rintro e' w1 ⟨rfl,hb1⟩;have hbw:=HAL.out.trans (hb1.mono HAL.out.size);have y6:=cO hb1 (HY.out 6 _ rfl);have m0:=cO hbw HP.out.1;have r0:=cO hbw HP.out.2.1;have r1:=cO hbw HP.out.2.2.1;have r2:=cO hbw HP.out.2.2.2.1;have r3:=cO hbw HP.out.2.2.2.2.1;have r4:=cO hbw HP.out.2.2.2.2.2.1;have r5:=cO hbw HP.out.2.2.2.2.2.2;have hl1:=hbw.size) | (go_at_call 38;refine (HRA.out _ (hbw.alloc hl1 _)).mono ?_;rintro e' w2 ⟨A5,c5,rfl,hs5,hb2⟩;have HS5:=aF hs5;have HB2:=aF ((hbw.alloc hl1 _).trans (hb2.mono (by simp;omega)));have HZ:=aF (fun i v hi=>cO hb2 (cQ w1 [Value.int .i64 4,.slice A2 s.targets.length c2,.slice A3 xs.length c3,.int .i64 pl,.slice A4 n c4,.string s.name] 53 i v hi));obtain ⟨u0,-,-,u3,u4⟩:=aQ HZ.out;clear r0 r1 r2 r3 r4 r5 y6 m0 hs5;clear hb2 hbw hb1 hl1) | (go_at_call 39;refine (HIN.out (insL [] (opU xs)) pl A5 c5 _ HS5.out HSM.out.len).mono ?_;rintro e' w4 ⟨A7,c7,rfl,hs7,hb4⟩))
     go_ret;exact ⟨A7,c7,by rw [HE.out];rfl,by rw [HE.out];exact hs7,HB2.out.trans (hb4.mono HB2.out.size)⟩
    ·have hr4:(kd == 4)=false:=by simp [h4]
     by_cases h3:kd=3
     ·subst h3;by_cases h2:n=0
      ·subst h2;have HE:Hid (insL [] U=insL [] (opU xs)):=aF (by rw [HD3.out,ifU_f (by omega),List.append_nil]);go_enter Tryz.func15,Tryz.ntmps15
       go_wp2_with (first | (go_at_call 35;refine (HL.out _ hal).mono ?_;rintro e' w1 ⟨rfl,hb1⟩;have hbw:=HAL.out.trans (hb1.mono HAL.out.size);have y6:=cO hb1 (HY.out 6 _ rfl);have m0:=cO hbw HP.out.1;have r0:=cO hbw HP.out.2.1;have r1:=cO hbw HP.out.2.2.1;have r2:=cO hbw HP.out.2.2.2.1;have r3:=cO hbw HP.out.2.2.2.2.1;have r4:=cO hbw HP.out.2.2.2.2.2.1;have r5:=cO hbw HP.out.2.2.2.2.2.2;have hl1:=hbw.size) | (go_at_call 38;refine (HRA.out _ (hbw.alloc hl1 _)).mono ?_;rintro e' w2 ⟨A5,c5,rfl,hs5,hb2⟩;have HS5:=aF hs5;have HB2:=aF ((hbw.alloc hl1 _).trans (hb2.mono (by simp;omega)));have HZ:=aF (fun i v hi=>cO hb2 (cQ w1 [Value.int .i64 3,.slice A2 s.targets.length c2,.slice A3 xs.length c3,.int .i64 pl,.slice A4 0 c4,.string s.name] 53 i v hi));obtain ⟨u0,-,-,u3,u4⟩:=aQ HZ.out;clear r0 r1 r2 r3 r4 r5 y6 m0 hs5;clear hb2 hbw hb1 hl1))
       go_ret;exact ⟨A5,c5,by rw [HE.out];rfl,by rw [HE.out];exact HS5.out,HB2.out⟩
      ·have hn:0<(n:Int):=(by omega);have HE:Hid (insL [] U=insI pl (insL [] (opU xs))):=aF (by rw [HD3.out,ifU_t (.inr ⟨rfl,by omega⟩),fG]);go_enter Tryz.func15,Tryz.ntmps15
       go_wp2_with (first | (go_at_call 35;refine (HL.out _ hal).mono ?_;rintro e' w1 ⟨rfl,hb1⟩;have hbw:=HAL.out.trans (hb1.mono HAL.out.size);have y6:=cO hb1 (HY.out 6 _ rfl);have m0:=cO hbw HP.out.1;have r0:=cO hbw HP.out.2.1;have r1:=cO hbw HP.out.2.2.1;have r2:=cO hbw HP.out.2.2.2.1;have r3:=cO hbw HP.out.2.2.2.2.1;have r4:=cO hbw HP.out.2.2.2.2.2.1;have r5:=cO hbw HP.out.2.2.2.2.2.2;have hl1:=hbw.size) | (go_at_call 38;refine (HRA.out _ (hbw.alloc hl1 _)).mono ?_;rintro e' w2 ⟨A5,c5,rfl,hs5,hb2⟩;have HS5:=aF hs5;have HB2:=aF ((hbw.alloc hl1 _).trans (hb2.mono (by simp;omega)));have HZ:=aF (fun i v hi=>cO hb2 (cQ w1 [Value.int .i64 3,.slice A2 s.targets.length c2,.slice A3 xs.length c3,.int .i64 pl,.slice A4 n c4,.string s.name] 53 i v hi));obtain ⟨u0,-,-,u3,u4⟩:=aQ HZ.out;clear r0 r1 r2 r3 r4 r5 y6 m0 hs5;clear hb2 hbw hb1 hl1) | (go_at_call 39;refine (HIN.out (insL [] (opU xs)) pl A5 c5 _ HS5.out HSM.out.len).mono ?_;rintro e' w4 ⟨A7,c7,rfl,hs7,hb4⟩))
       go_ret;exact ⟨A7,c7,by rw [HE.out];rfl,by rw [HE.out];exact hs7,HB2.out.trans (hb4.mono HB2.out.size)⟩
     ·have hr3:(kd == 3)=false:=by simp [h3]
      have HE:Hid (insL [] U=insL [] (opU xs)):=aF (by rw [HD3.out,ifU_f (by omega),List.append_nil]);go_enter Tryz.func15,Tryz.ntmps15
      go_wp2_with (first | (go_at_call 35;refine (HL.out _ hal).mono ?_;rintro e' w1 ⟨rfl,hb1⟩;have hbw:=HAL.out.trans (hb1.mono HAL.out.size);have y6:=cO hb1 (HY.out 6 _ rfl);have m0:=cO hbw HP.out.1;have r0:=cO hbw HP.out.2.1;have r1:=cO hbw HP.out.2.2.1;have r2:=cO hbw HP.out.2.2.2.1;have r3:=cO hbw HP.out.2.2.2.2.1;have r4:=cO hbw HP.out.2.2.2.2.2.1;have r5:=cO hbw HP.out.2.2.2.2.2.2;have hl1:=hbw.size) | (go_at_call 38;refine (HRA.out _ (hbw.alloc hl1 _)).mono ?_;rintro e' w2 ⟨A5,c5,rfl,hs5,hb2⟩;have HS5:=aF hs5;have HB2:=aF ((hbw.alloc hl1 _).trans (hb2.mono (by simp;omega)));have HZ:=aF (fun i v hi=>cO hb2 (cQ w1 [Value.int .i64 kd,.slice A2 s.targets.length c2,.slice A3 xs.length c3,.int .i64 pl,.slice A4 n c4,.string s.name] 53 i v hi));obtain ⟨u0,-,-,u3,u4⟩:=aQ HZ.out;clear r0 r1 r2 r3 r4 r5 y6 m0 hs5;clear hb2 hbw hb1 hl1))
      go_ret;exact ⟨A5,c5,by rw [HE.out];rfl,by rw [HE.out];exact HS5.out,HB2.out⟩
def sF (sl:List Int):Nat->Value:=fun j=> .bool (decide ((j:Int)∈sl))
theorem xEN (sl:List Int) (j k:Nat):updF1 (sF sl) j (.bool true) k=sF ((j:Int) :: sl) k:=by
 unfold updF1 sF;by_cases h:k=j
 ·subst h;simp
 ·rw [aZ h];congr 1
  simp only [cL];have:¬(k:Int)=(j:Int):=by omega
  simp [this]
structure LvW (b:Bdy) (bh:BH) (w:World) (B cn:Nat) (l sl:List Int) (v:Value) (W:World):Prop where
 box:∀i u,[Value.string b.name,.slice bh.A1 b.regions.length bh.c1,.slice bh.A2 b.outl.length bh.c2,.slice bh.A3 b.types.length bh.c3,.slice bh.A4 b.locals.length bh.c4,.int .i64 b.args,.slice bh.A5 b.blocks.length bh.c5][i]?=some u->W.cell? ⟨w.heap.size,i,none⟩=some u
 own:W.ownsRow (B+1) 3 1 v l.length (l.map (Value.int .i64))
 row:RowF W B cn 4 (sF sl)
 low:Below w.heap.size w W
 lt:w.heap.size<B
theorem LvW.keep {b:Bdy} {bh:BH} {w:World} {B cn:Nat} {l sl:List Int} {v:Value} {W W':World} (h:LvW b bh w B cn l sl v W) (hb:Below W.heap.size W W'):LvW b bh w B cn l sl v W':=
 ⟨fun i u hi=>cO hb (h.box i u hi),dG h.own hb,h.row.block (hb.block _ h.row.lt),h.low.trans (hb.mono h.low.size),h.lt⟩
theorem LvW.mark {b:Bdy} {bh:BH} {w:World} {B cn:Nat} {l sl:List Int} {v:Value} {W:World} (h:LvW b bh w B cn l sl v W) (j:Nat):LvW b bh w B cn l ((j:Int) :: sl) v (W.setCell ⟨B,j,none⟩ (.bool true)):=
 ⟨fun i u hi=>(World.cell?_of_block (a:=⟨w.heap.size,i,none⟩) (bH W ⟨B,j,none⟩ _ _ (by have:=h.lt;simp;omega))).trans (h.box i u hi),
  ownsRow_setCell_below h.own (by simp) _,(h.row.set j _).congr (fun k _=>xEN sl j k),RowF.below _ (by have:=h.lt;omega) h.low,h.lt⟩
theorem LvW.grow {b:Bdy} {bh:BH} {w:World} {B cn:Nat} {l sl nx:List Int} {v v':Value} {W W':World} (h:LvW b bh w B cn l sl v W) (hg:W.grownBy W' v.ownBlock) (ho:W'.ownsRow (B+1) 3 1 v' (l.length+nx.length) (l.map (Value.int .i64) ++ nx.map (Value.int .i64))):LvW b bh w B cn (l ++ nx) sl v' W':=
 ⟨fun i u hi=>(World.cell?_of_block (a:=⟨w.heap.size,i,none⟩) (hg.block _ (cD W _ (h.box i u hi)) (dV h.own (by have:=h.lt;simp;omega)))).trans (h.box i u hi),
  by rw [bB,bS];exact ho,h.row.block (hg.block _ h.row.lt (dV h.own (by omega))),
  h.low.grown hg (by have:=h.row.lt;have:=h.lt;omega) (fun g hge=>by have:=(h.own.lt g hge).1;have:=h.lt;omega),h.lt⟩
abbrev Tr:=Option Addr × List Int × Nat
def encTr (t:Tr):Value:= .slice t.1 t.2.1.length t.2.2
def RTr:Rd Tr:=fun w _ b o t=>w.cell? ⟨b,o,none⟩=some (encTr t)
theorem zH {w:World} {A:Option Addr} {c:Nat} {tr:List Tr} (h:Slc 1 RTr w A c tr) (hr:∀t∈tr,Slc 1 RInt w t.1 t.2.2 t.2.1):Slc 1 (RSl 1 RInt) w A c (tr.map (·.2.1)):=
 ⟨fun hn=>by
   obtain ⟨b,off,hA,hlt,hx⟩:=h.sl (by simpa using hn);refine ⟨b,off,hA,hlt,fun i x hi=>?_⟩;rw [cN] at hi;cases e:tr[i]? with
   | none=>rw [e] at hi;cases hi
   | some t=>
     rw [e] at hi;injection hi with hi
     subst hi;have h1:=hr t (List.mem_of_getElem? e)
     exact ⟨t.1,t.2.2,hx i t e,h1.le,h1.big,h1.sl⟩,by simpa using h.le,h.big⟩
structure RcW (b:Bdy) (bh:BH) (w:World) (m:Nat) (tr:List Tr) (v:Value) (W:World):Prop where
 box:∀i u,[Value.string b.name,.slice bh.A1 b.regions.length bh.c1,.slice bh.A2 b.outl.length bh.c2,.slice bh.A3 b.types.length bh.c3,.slice bh.A4 b.locals.length bh.c4,.int .i64 b.args,.slice bh.A5 b.blocks.length bh.c5][i]?=some u->W.cell? ⟨w.heap.size,i,none⟩=some u
 own:W.ownsRow (w.heap.size+1) 34 1 v m (tr.map encTr)
 rows:∀t∈tr,W.ownsRow (w.heap.size+1) 3 1 (encTr t) t.2.1.length (t.2.1.map (Value.int .i64))
 len:tr.length=m
 low:Below w.heap.size w W
 lt:w.heap.size<W.heap.size
 srt:∀(k:Nat) (t:Tr),tr[k]?=some t->Srt t.2.1 (fun z=>Lv b.blocks z (k:Int))
theorem RcW.keep {b:Bdy} {bh:BH} {w:World} {m:Nat} {tr:List Tr} {v:Value} {W W':World} (h:RcW b bh w m tr v W) (hb:Below W.heap.size W W'):RcW b bh w m tr v W':=
 ⟨fun i u hi=>cO hb (h.box i u hi),dG h.own hb,fun t ht=>dG (h.rows t ht) hb,h.len,h.low.trans (hb.mono h.low.size),bN h.lt hb.size,h.srt⟩
theorem wE {W:World} {b1 b2:Nat} {e1 e2:TypeId} {k1 k2 n1 n2:Nat} {v1 v2:Value} {x1 x2:List Value} (h1:W.ownsRow b1 e1 k1 v1 n1 x1) (h2:W.ownsRow b2 e2 k2 v2 n2 x2) (hne:e1≠e2):v1.ownBlock=none\/v1.ownBlock≠v2.ownBlock:=by
 rcases h1.2 with ⟨rfl,_⟩ | ⟨g,cap,cur,rfl,_,hh,_⟩
 ·exact .inl rfl
 ·exact .inr (xBL h2 hh (Ne.symm hne))
theorem RcW.grow {b:Bdy} {bh:BH} {w:World} {m:Nat} {tr:List Tr} {v v':Value} {W W':World} (h:RcW b bh w m tr v W) (t:Tr) (ht:W.ownsRow (w.heap.size+1) 3 1 (encTr t) t.2.1.length (t.2.1.map (Value.int .i64)))
 (hg:W.grownBy W' v.ownBlock) (ho:W'.ownsRow (w.heap.size+1) 34 1 v' (m+1) (tr.map encTr ++ [encTr t])) (hs:Srt t.2.1 (fun z=>Lv b.blocks z m)):RcW b bh w (m+1) (tr ++ [t]) v' W':=by
 have hk:∀t',W.ownsRow (w.heap.size+1) 3 1 (encTr t') t'.2.1.length (t'.2.1.map (Value.int .i64))->W'.ownsRow (w.heap.size+1) 3 1 (encTr t') t'.2.1.length (t'.2.1.map (Value.int .i64)):=fun t' ht'=>ht'.kept hg (wE ht' h.own (by decide))
 refine ⟨fun i u hi=>(World.cell?_of_block (a:=⟨w.heap.size,i,none⟩) (hg.block _ h.lt (dV h.own (by simp)))).trans (h.box i u hi),by rw [bS];exact ho,fun t' ht'=>?_,by simp [h.len],h.low.grown hg (Nat.le_of_lt h.lt) (fun g hge=>by have:=(h.own.lt g hge).1;omega),bN h.lt hg.size,fun k t' hk'=>?_⟩
 ·rcases List.mem_append.1 ht' with h1 | h1
  ·exact hk t' (h.rows t' h1)
  ·rw [List.mem_singleton.1 h1];exact hk t ht
 ·rcases Nat.lt_or_ge k tr.length with h1 | h1
  ·rw [List.getElem?_append_left h1] at hk';exact h.srt k t' hk'
  ·rw [List.getElem?_append_right h1] at hk'
   have h2:k=m:=by
    have:=(List.getElem?_eq_some_iff.1 hk').1;have:=h.len;simp at *;omega
   subst h2;rw [h.len,Nat.sub_self] at hk';injection hk' with hk'
   subst hk';exact hs
theorem xFB:(Tryz.prog.info? 34).map (fun i=>(i.zero,i.size,i.bytes))=some (some (.slice none 0 0),1,24):=by kernel_rfl
end
section
open Go Go.RowKit Go.Maps
structure EffW (eb mb n:Nat) (sl:List Int) (d:Int) (hd:Bool) (W:World):Prop where
 blk:W.heap[eb]?=some (.cells #[.map (some mb),.int .i64 d,.bool hd] 77 (0,0))
 own:OwnI W mb n sl
section
variable {eb mb n:Nat} {sl:List Int} {d:Int} {hd:Bool} {W:World}
theorem EffW.c0 (h:EffW eb mb n sl d hd W):W.cell? ⟨eb,0,none⟩=some (.map (some mb)):=by simp [World.cell?,h.blk]
theorem EffW.c1 (h:EffW eb mb n sl d hd W):W.cell? ⟨eb,1,none⟩=some (.int .i64 d):=by simp [World.cell?,h.blk]
theorem EffW.c2 (h:EffW eb mb n sl d hd W):W.cell? ⟨eb,2,none⟩=some (.bool hd):=by simp [World.cell?,h.blk]
theorem EffW.frozen (h:EffW eb mb n sl d hd W) (k:Nat):W.frozen? ⟨eb,k,none⟩=false:=by simp [World.frozen?,h.blk]
theorem EffW.lt (h:EffW eb mb n sl d hd W):eb<W.heap.size:=(Array.getElem?_eq_some_iff.1 h.blk).1
theorem EffW.ne (h:EffW eb mb n sl d hd W):eb≠mb:=fun e=>by
 obtain ⟨D,⟨es,clock,h1,_⟩,_⟩:=h.own;have:=h.blk;rw [e,h1] at this;cases this
theorem EffW.keep {W':World} (h:EffW eb mb n sl d hd W) (hb:Below W.heap.size W W'):EffW eb mb n sl d hd W':=
 ⟨(hb.block _ h.lt).trans h.blk,h.own.below hb⟩
theorem EffW.def_ (h:EffW eb mb n sl d hd W) (x:Int):EffW eb mb n sl x true ((W.setCell ⟨eb,1,none⟩ (.int .i64 x)).setCell ⟨eb,2,none⟩ (.bool true)):=by
 refine ⟨by simp [World.setCell,Array.getElem?_modify,h.blk],h.own.block ?_⟩;exact (bH _ ⟨eb,2,none⟩ _ _ (by simpa using (Ne.symm h.ne))).trans (bH _ ⟨eb,1,none⟩ _ _ (by simpa using (Ne.symm h.ne)))
end
theorem qO {W:World} {a:Addr} {v:Value} {mb n:Nat} {sl:List Int} (h:W.cell? a=some v) (ho:OwnI W mb n sl):a.block≠mb:=fun e=>by
 obtain ⟨D,⟨es,clock,h1,_⟩,_⟩:=ho;obtain ⟨cs,t,z,hc⟩:=sJ h;rw [e,h1] at hc;cases hc
theorem dX {W W':World} {a:Addr} {v:Value} {mb n:Nat} {sl:List Int} (h:W.cell? a=some v) (ho:OwnI W mb n sl) (hg:W.grownBy W' (some mb)):W'.cell? a=some v:=
 (World.cell?_of_block (hg.block a.block (cD W a h) (fun e=>qO h ho (by injection e)))).trans h
theorem EffW.put {eb mb n:Nat} {sl:List Int} {d:Int} {hd:Bool} {W W':World} (h:EffW eb mb n sl d hd W) (hg:W.grownBy W' (some mb)) {m:Nat} {sl':List Int} (ho:OwnI W' mb m sl'):EffW eb mb m sl' d hd W':=
 ⟨(hg.block _ h.lt (fun e=>h.ne (by injection e))).trans h.blk,ho⟩
theorem OwnI.tight {w:World} {b n m:Nat} {sl:List Int} (h:OwnI w b n sl) (hs:∀x∈sl,0<=x/\x<(m:Int)):OwnI w b m sl:=by
 obtain ⟨D,hm,h2,h3⟩:=h;obtain ⟨es',he',-,hkl⟩:=hm.entries law3;obtain ⟨es,clock,hb,F,hsz,rfl⟩:=hm;injection he' with he'
 subst he';refine ⟨_,⟨es,clock,hb,F,?_,rfl⟩,h2,h3⟩;have ha:=fit_apart law3 F;generalize hL:es.toList.map (WideElems.rg Tryz.prog 3 (plainElem Tryz.prog 4))=L at *
 have hk:∀p∈L,∃x∈sl,p.1=Lit.int .i64 x:=fun p hp=>by
  have h4:Maps.has (.map (L.foldr DataW.insert [])) p.1=true:=by
   unfold Maps.has;rw [List.any_eq_true];refine ⟨p,mem_sorted.2 hp,?_⟩;have:=hkl p (mem_sorted.2 hp);revert this
   cases p.1 <;> simp [Lit.sameKey,WideAt.IsKeyLit]
  rw [h3] at h4;unfold i64F at h4;split at h4
  ·rename_i x hx;exact ⟨x,by simpa [inF] using h4,hx⟩
  ·cases h4
 have hlen:es.size=L.length:=by rw [<- hL];simp
 rw [hlen];let f:Lit × DataW Unit->Int:=fun p=>match p.1 with | .int _ x=>x | _=>0
 have hf:∀p∈L,∀x,p.1=Lit.int .i64 x->f p=x:=fun p _ x e=>by simp only [f];rw [e]
 have:=dR m (L.map f) (by
  unfold List.Nodup;rw [List.pairwise_map];refine List.Pairwise.imp_of_mem ?_ ha;intro p q hp hq hne e;obtain ⟨x,_,ex⟩:=hk p hp;obtain ⟨y,_,ey⟩:=hk q hq;rw [hf p hp x ex,hf q hq y ey] at e
  exact hne (by rw [ex,ey,e])) (fun z hz=>by
  obtain ⟨p,hp,rfl⟩:=List.mem_map.1 hz;obtain ⟨x,hx,ex⟩:=hk p hp;rw [hf p hp x ex]
  exact hs x hx)
 simpa using this
def Sml (z:Int):Prop:=0<=z/\z<((1000000:Nat):Int)
theorem lS {A B:World} {r:Option Nat} (h:A.grownBy B r):A.grownBy B.drew r:=⟨h.os,h.tape,h.output,h.size,h.block⟩
theorem iB {A B:World} {r:Option Nat} (h:Below A.heap.size A B):A.grownBy B r:=⟨h.os,h.tape,h.output,h.size,fun k hk _=>h.block k hk⟩
theorem EffW.drew {eb mb n:Nat} {sl:List Int} {d:Int} {hd:Bool} {W:World} (h:EffW eb mb n sl d hd W):EffW eb mb n sl d hd W.drew:=⟨h.blk,h.own⟩
theorem fO {z:Int} (h:0<=z/\z<((1000000:Nat):Int)):keyOf Tryz.prog 3 (.int .i64 z)=some (.int .i64 z):=Maps.keyOf_int_mk Tryz.underlying3 (by simp [Lit.wf,IntKind.min,IntKind.max,IntKind.signed,IntKind.bits];omega)
theorem gK (xs:List Opd) (B:Option Addr) (d:Nat) (eb mb:Nat) (sl:List Int) (dd:Int) (hd:Bool) (w:World) (hE:EffW eb mb 1000000 sl dd hd w) (hs:∀z∈sl,Sml z) (ho:Slc 4 ROp w B d xs) (hx:∀z∈opU xs,0<=z/\z<((1000000:Nat):Int)):
 Calls Tryz.prog 100 #[.pointer (some ⟨eb,0,none⟩),.slice B xs.length d] w fun e' w'=>e' = .returned undef/\∃sl',EffW eb mb 1000000 sl' dd hd w'/\(∀z,z∈sl'↔z∈sl\/z∈opU xs)/\(∀z∈sl',Sml z)/\w.grownBy w' (some mb):=by
 have HE:=aF hE;have HO:=aF ho;have hol:=ho.le;have hob:=ho.big;have HX:=aF hx;have HSM:=aF hs;clear hE ho hx hs;go_enter Tryz.func100,Tryz.ntmps100
 go_wp2_with fail
 go_loopw [8] (fun v wr=>∃(i:Nat) (sl':List Int),v = .int .i64 i/\i<=xs.length/\Hid (EffW eb mb 1000000 sl' dd hd wr)/\Hid (∀z∈sl',Sml z)/\Hid (∀z,z∈sl'↔z∈sl\/z∈opU (xs.take i))/\Hid (w.grownBy wr (some mb))) (fun v _=>xs.length - (intOf v).toNat)
 case atStart=>exact ⟨0,sl,rfl,by omega,HE,HSM,aF (fun z=>by simp [opU]),aF (World.grownBy.refl _ _)⟩
 case round=>
  obtain ⟨i,sl',rfl,hi,HF,HS3,HM,HG⟩:=hrel;by_cases hlt:i<xs.length
  case neg=>
   have hie:i=xs.length:=by omega
   subst hie;go_wp2_with fail
   go_end0
   exact ⟨rfl,sl',HF.out,fun z=>by rw [HM.out z,bZ],HS3.out,HG.out⟩
  case pos=>
  obtain ⟨ob,oo,hOA,hob2,ho0⟩:=HO.out.sl.at_ hlt;obtain ⟨PA,pc,p0,p1,p2,p3,-⟩:=wJ ho0;have q0:=dX p0 HE.out.own HG.out;have q1:=dX p1 HE.out.own HG.out;have q2:=dX p2 HE.out.own HG.out;have q3:=dX p3 HE.out.own HG.out;have HT:=aF (rO (bD hlt));have HXI:=aF (fun (h:xs[i].kind=0\/xs[i].kind=1)=>HX.out xs[i].place.loc (wK (m:=i+1) (by rw [HT.out];unfold ifU;rw [bA h];simp)));rw [hOA];clear p0 p1 p2 p3 ho0;generalize xs[i].kind=kd at *;generalize xs[i].place.loc=lc at *;generalize xs[i].n=on at *;generalize xs[i].place.proj.length=pn at *;by_cases hk:kd=0\/kd=1
  ·have HKY:=aF (HXI.out hk)
   have HT2:Hid (∀z,z∈lc :: sl'↔z∈sl\/z∈opU (xs.take (i+1))):=aF (fun z=>by
    rw [HT.out];unfold ifU;rw [bA hk,cL,HM.out z,cK,bR];constructor
    ·rintro (h | h | h)
     ·exact .inr (.inr h)
     ·exact .inl h
     ·exact .inr (.inl h)
    ·rintro (h | h | h)
     ·exact .inr (.inl h)
     ·exact .inr (.inr h)
     ·exact .inl h)
   rcases hk with rfl | rfl
   ·have e0:=HF.out.c0;go_wp2_with fail
    obtain ⟨W5,hW5,l5,HF5,HG5⟩:∃W5,W5=wr.alloc (.cells #[.int .i64 0,.int .i64 lc,.slice PA pn pc,.int .i64 on] 69)/\(W5.cell? ⟨wr.heap.size,1,none⟩=some (.int .i64 lc))/\Hid (EffW eb mb 1000000 sl' dd hd W5)/\Hid (w.grownBy W5 (some mb)):=⟨_,rfl,cQ wr [.int .i64 0,.int .i64 lc,.slice PA pn pc,.int .i64 on] 69 1 _ rfl,aF (HF.out.keep  ((aX _ _).alloc (aY _) _)),aF (HG.out.trans (iB ((aX _ _).alloc (aY _) _)))⟩;rw [<- hW5];have e5:=HF5.out.c0;clear hW5;go_still_tail 7,(by kernel_rfl)
    change wpList _ _ _ _ _ W5.drew;go_wp2_with (at_mapUpdate;refine eA _ rfl _ _ _ rfl mb 1000000 sl' rfl HF5.out.drew.own (by unfold maxLen;omega) lc rfl rfl (fO HKY.out) ?_;intro w7 ho7 hg7)
    have HS7:Hid (∀z∈lc :: sl',Sml z):=aF (fun z hz=>(List.mem_cons.1 hz).elim (fun e=>e ▸ HKY.out) (HS3.out z));have HF7:=aF (HF5.out.drew.put hg7 (ho7.tight HS7.out));go_roundw
    case rel=>exact ⟨i+1,lc :: sl',by go_num,by omega,HF7,HS7,HT2,aF ((lS HG5.out).trans hg7)⟩
    case measure=>simp [intOf];omega
   ·have e0:=HF.out.c0;go_wp2_with fail
    obtain ⟨W5,hW5,l5,HF5,HG5⟩:∃W5,W5=wr.alloc (.cells #[.int .i64 1,.int .i64 lc,.slice PA pn pc,.int .i64 on] 69)/\(W5.cell? ⟨wr.heap.size,1,none⟩=some (.int .i64 lc))/\Hid (EffW eb mb 1000000 sl' dd hd W5)/\Hid (w.grownBy W5 (some mb)):=⟨_,rfl,cQ wr [.int .i64 1,.int .i64 lc,.slice PA pn pc,.int .i64 on] 69 1 _ rfl,aF (HF.out.keep  ((aX _ _).alloc (aY _) _)),aF (HG.out.trans (iB ((aX _ _).alloc (aY _) _)))⟩;rw [<- hW5];have e5:=HF5.out.c0;clear hW5;go_still_tail 7,(by kernel_rfl)
    change wpList _ _ _ _ _ W5.drew;go_wp2_with (at_mapUpdate;refine eA _ rfl _ _ _ rfl mb 1000000 sl' rfl HF5.out.drew.own (by unfold maxLen;omega) lc rfl rfl (fO HKY.out) ?_;intro w7 ho7 hg7)
    have HS7:Hid (∀z∈lc :: sl',Sml z):=aF (fun z hz=>(List.mem_cons.1 hz).elim (fun e=>e ▸ HKY.out) (HS3.out z));have HF7:=aF (HF5.out.drew.put hg7 (ho7.tight HS7.out));go_roundw
    case rel=>exact ⟨i+1,lc :: sl',by go_num,by omega,HF7,HS7,HT2,aF ((lS HG5.out).trans hg7)⟩
    case measure=>simp [intOf];omega
  ·have HT2:Hid (∀z,z∈sl'↔z∈sl\/z∈opU (xs.take (i+1))):=aF (fun z=>by rw [HT.out];unfold ifU;rw [aZ hk,List.append_nil];exact HM.out z);have hk0:(kd == 0)=false:=by simp;omega
   have hk1:(kd == 1)=false:=by simp;omega
   go_wp2_with fail
   have hb:Below wr.heap.size wr (wr.alloc (.cells #[.int .i64 kd,.int .i64 lc,.slice PA pn pc,.int .i64 on] 69)):=(aX _ _).alloc (aY _) _;go_roundw
   case rel=>exact ⟨i+1,sl',by go_num,by omega,aF (HF.out.keep hb),HS3,HT2,aF (HG.out.trans (iB hb))⟩
   case measure=>simp [intOf];omega
def WrP (pl:Int) (pn N eb mb:Nat) (sl:List Int) (dd:Int) (hd:Bool) (w w':World):Prop:=
 ∃sl' d' hd',EffW eb mb 1000000 sl' d' hd' w'/\(∀z∈sl',Sml z)/\(if 0<pn then (∀z,z∈sl'↔z=pl\/z∈sl)/\d'=dd/\hd'=hd else sl'=sl/\d'=pl/\hd'=true)/\Below N w w'
theorem gR (pl:Int) (PA:Option Addr) (pn pc:Nat) (N eb mb:Nat) (sl:List Int) (dd:Int) (hd:Bool) (w:World) (hE:EffW eb mb 1000000 sl dd hd w) (hs:∀z∈sl,Sml z) (hN:N<=eb/\N<=mb) (hx:0<pn->0<=pl/\pl<((1000000:Nat):Int)):
 Calls Tryz.prog 101 #[.pointer (some ⟨eb,0,none⟩),.agg #[.int .i64 pl,.slice PA pn pc]] w fun e' w'=>e' = .returned undef/\WrP pl pn N eb mb sl dd hd w w':=by
 have hNs:N<=w.heap.size:=by have:=hE.lt;omega
 have hb:Below w.heap.size w (w.alloc (.cells #[.int .i64 pl,.slice PA pn pc] 51)):=(aX _ _).alloc (aY _) _;have HB:=aF hb;have l0:=cQ w [.int .i64 pl,.slice PA pn pc] 51 0 _ rfl;have l1:=cQ w [.int .i64 pl,.slice PA pn pc] 51 1 _ rfl;have HE:=aF (hE.keep hb);have heb:=hE.lt;have HE0:=aF hE;have HSM:=aF hs;clear hE hb hs;by_cases hp:0<pn
 ·have hp2:0<(pn:Int):=by omega
  have HK:=aF (hx hp);have e0:=HE.out.c0;go_enter Tryz.func101,Tryz.ntmps101
  go_wp2_with fail
  obtain ⟨W5,hW5,HE5,HB5⟩:∃W5,W5=w.alloc (.cells #[.int .i64 pl,.slice PA pn pc] 51)/\Hid (EffW eb mb 1000000 sl dd hd W5)/\Hid (Below w.heap.size w W5):=⟨_,rfl,HE,HB⟩;rw [<- hW5] at l0 l1 e0 ⊢;clear hW5 HE HB;go_still_tail 6,(by kernel_rfl)
  change wpList _ _ _ _ _ W5.drew;go_wp2_with (at_mapUpdate;refine eA _ rfl _ _ _ rfl mb 1000000 sl rfl HE5.out.drew.own (by unfold maxLen;omega) pl rfl rfl (fO HK.out) ?_;intro w7 ho7 hg7)
  go_end0
  have HS7:∀z∈pl :: sl,Sml z:=fun z hz=>(List.mem_cons.1 hz).elim (fun e=>e ▸ HK.out) (HSM.out z)
  exact ⟨rfl,pl :: sl,dd,hd,HE5.out.drew.put hg7 (ho7.tight HS7),HS7,by rw [bA hp];exact ⟨fun z=>cL,rfl,rfl⟩,((HB5.out.mono hNs).drew).grown hg7 (bX hNs HB5.out.drew.size) (fun g hg=>by injection hg with hg;omega)⟩
 ·have hp0:pn=0:=by omega
  subst hp0;have f1:=HE0.out.frozen 1;have f2:=HE0.out.frozen 2;have e1:=HE0.out.c1;have e2:=HE0.out.c2;clear hx;go_enter Tryz.func101,Tryz.ntmps101
  go_wp2_with fail
  go_end0
  exact ⟨rfl,sl,pl,true,(HE0.out.def_ pl).keep ((aX _ _).alloc (aY _) _),HSM.out,by rw [aZ (by omega)];exact ⟨rfl,rfl,rfl⟩,(((aX N w).setCell hN.1 _).setCell hN.1 _).alloc (by simp;omega) _⟩
end
section
open Go Go.RowKit
attribute [local go_sem] Oper.semAt_some
def prC (z:Int × Int):List Value:=[.int .i64 z.1,.int .i64 z.2]
theorem xCP {W:World} {base n:Nat} {e:TypeId} {v:Value} {ys:List (Int × Int)} (h:W.ownsRow base e 2 v n (ys.flatMap prC)) (hn:ys.length=n):∃A c,v = .slice A n c/\Slc 2 RPr W A c ys:=by
 subst hn;rcases h.2 with ⟨rfl,hz⟩ | ⟨g,cap,cur,rfl,hb,hh,hnc,hm,_,_⟩
 ·have:ys=[]:=bU hz;subst this;exact ⟨none,0,rfl,Sl.nil,by simp,by omega⟩
 ·refine ⟨some ⟨g,0,none⟩,cap,rfl,⟨fun _=>⟨g,0,rfl,(Array.getElem?_eq_some_iff.1 hh).1,fun i x hx=>?_⟩,hnc,by simp only [maxLen] at hm;omega⟩⟩
  have key:∀(ys:List (Int × Int)) (i:Nat),ys[i]?=some x->(ys.flatMap prC)[i * 2]?=some (.int .i64 x.1)/\(ys.flatMap prC)[i * 2+1]?=some (.int .i64 x.2):=by
   intro ys;induction ys with
   | nil=>intro i hi;simp at hi
   | cons y r ih=>
     intro i hi;cases i with
     | zero=>simp at hi;subst hi;simp [prC]
     | succ i=>
       obtain ⟨h1,h2⟩:=ih i (by simpa using hi);rw [show (i+1) * 2=i * 2+2 by omega];simpa [prC] using ⟨h1,h2⟩
  obtain ⟨h1,h2⟩:=key ys i hx;have c1:=h.cells (g:=g) rfl (i * 2) _ h1;have c2:=h.cells (g:=g) rfl (i * 2+1) _ h2;rw [add0] at c1 c2;exact ⟨by simpa using c1,by simpa [Nat.add_assoc] using c2⟩
theorem zD {l:List (Int × Int)} {P:Int × Int->Prop} {n:Nat} (h:Srt2 l P) (hP:∀z,P z->0<=z.1/\z.1<(n:Int)/\0<=z.2/\z.2<(n:Int)):l.length<=n * n:=
 nP n dR l (h.1.imp fun {a b} hab e=>by subst e;exact jG hab hab) (fun p hp=>hP p ((h.2 p).1 hp))
theorem xBO:(Tryz.prog.info? 43).map (fun i=>(i.zero,i.size,i.bytes))=some (some (.agg #[.int .i64 0,.int .i64 0]),2,16):=by kernel_rfl
structure Eb (W0:World) (lc:Nat) (W:World):Prop where
 os:W.os=W0.os
 tape:W.tape=W0.tape
 output:W.output=W0.output
 size:W0.heap.size<=W.heap.size
 keep:∀k,k<W0.heap.size->k≠lc->W.heap[k]?=W0.heap[k]?
theorem Eb.refl (W:World) (lc:Nat):Eb W lc W:=⟨rfl,rfl,rfl,aY _,fun _ _ _=>rfl⟩
theorem Eb.turn {W0 A B:World} {lc:Nat} {T:TypeId->Bool} (h:Eb W0 lc A) (ht:Turn W0.heap.size T A B):Eb W0 lc B:=
 ⟨ht.os.trans h.os,ht.tape.trans h.tape,ht.output.trans h.output,bX h.size ht.size,fun k hk hne=>(ht.low k hk (bN hk h.size)).trans (h.keep k hk hne)⟩
theorem Eb.then_ {W0 A B:World} {lc:Nat} (h:Eb W0 lc A) (hb:Below A.heap.size A B):Eb W0 lc B:=
 ⟨hb.os.trans h.os,hb.tape.trans h.tape,hb.output.trans h.output,bX h.size hb.size,fun k hk hne=>(hb.block k (bN hk h.size)).trans (h.keep k hk hne)⟩
theorem Eb.set {W0 A:World} {lc:Nat} (h:Eb W0 lc A) (j:Nat) (v:Value):Eb W0 lc (A.setCell ⟨lc,j,none⟩ v):=
 ⟨h.os,h.tape,h.output,by simpa using h.size,fun k hk hne=>(bH A ⟨lc,j,none⟩ v k hne).trans (h.keep k hk hne)⟩
theorem Eb.grown {W0 A B:World} {lc:Nat} {row:Option Nat} (h:Eb W0 lc A) (hg:A.grownBy B row) (hr:∀g,row=some g->W0.heap.size<=g):Eb W0 lc B:=
 ⟨hg.os.trans h.os,hg.tape.trans h.tape,hg.output.trans h.output,bX h.size hg.size,fun k hk hne=>(hg.block k (bN hk h.size) (fun e=>by have:=hr k e.symm;omega)).trans (h.keep k hk hne)⟩
theorem Eb.below {w W0 W:World} {lc:Nat} (h:Eb W0 lc W) (hb:Below w.heap.size w W0) (hl:w.heap.size<=lc):Below w.heap.size w W:=
 ⟨h.os.trans hb.os,h.tape.trans hb.tape,h.output.trans hb.output,bX hb.size h.size,fun k hk=>(h.keep k (bN hk hb.size) (by omega)).trans (hb.block k hk)⟩
theorem Eb.ints {W0 W:World} {lc:Nat} (h:Eb W0 lc W) {v:Value} {T:TypeId} (hv:W0.heap[lc]?=some (.cells #[v] T (0,0))) (hi:∀q x,v ≠ .int q x) {A:Option Addr} {c:Nat} {xs:List Int} (hs:Slc 1 RInt W0 A c xs):Slc 1 RInt W A c xs:=by
 refine ⟨fun hn=>?_,hs.le,hs.big⟩;obtain ⟨b,off,hA,hlt,hx⟩:=hs.sl hn;refine ⟨b,off,hA,bN hlt h.size,fun i x hix=>?_⟩;have hc:=hx i x hix
 have hne:b≠lc:=fun e=>by
  subst e;unfold RInt World.cell? at hc;rw [hv] at hc;have hc2:(#[v]:Array Value)[off+i * 1]?=some (.int .i64 x):=hc;obtain ⟨hl,he⟩:=Array.getElem?_eq_some_iff.1 hc2;have h0:off+i * 1=0:=by simp at hl;omega
  simp only [h0] at he;exact hi _ _ he
 exact (World.cell?_of_block (a:=⟨b,off+i * 1,none⟩) (h.keep b hlt hne)).trans hc
theorem Kc.put {A:World} {D:Nat} {o:Obj} (o':Obj) (h:A.heap[D]?=some o) (hn:∀cs e z,o ≠ .cells cs e z):Kc A (A.putObj D o'):=
 ⟨fun a v g=>by
   obtain ⟨cs,e,z,hc⟩:=sJ g;refine (World.cell?_of_block (World.putObj_heap_other (fun e'=>?_))).trans g;rw [e',h] at hc;injection hc with hc
   exact hn cs e z hc,by simp⟩
theorem zG {w W:World} {A:Option Addr} {c:Nat} {xs:List Int} (h:Slc 1 RInt w A c xs) (hs:w.heap.size<=W.heap.size) (hb:∀a,A=some a->a.block<w.heap.size->W.heap[a.block]?=w.heap[a.block]?):Slc 1 RInt W A c xs:=
 ⟨fun hn=>by
   obtain ⟨b,off,hA,hlt,hx⟩:=h.sl hn
   exact ⟨b,off,hA,by omega,fun i x hi=>(World.cell?_of_block (a:=⟨b,off+i * 1,none⟩) (hb ⟨b,off,none⟩ hA hlt)).trans (hx i x hi)⟩,h.le,h.big⟩
structure EdS (bs:List Blk) (W0:World) (lc p:Nat) (l:List Int) (W:World) (v:Value) (L:List (Int × Int)):Prop where
 head:W.heap[lc]?=some (.cells #[v] 23 (0,0))
 own:W.ownsRow W0.heap.size 43 2 v L.length (L.flatMap prC)
 srt:Srt2 L (fun z=>folP bs z.1 z.2/\(z.1<(p:Int)\/(z.1=(p:Int)/\z.2∈l)))
 eb:Eb W0 lc W
theorem EdS.turn {bs:List Blk} {W0 A B:World} {lc p:Nat} {l:List Int} {v:Value} {L:List (Int × Int)} (h:EdS bs W0 lc p l A v L) (hl:lc<W0.heap.size) {T:TypeId->Bool} (hT:T 43=false) (ht:Turn W0.heap.size T A B):EdS bs W0 lc p l B v L:=
 ⟨ht.block_low hl h.head,ht.grownBy hT h.own,h.srt,h.eb.turn ht⟩
theorem EdS.then_ {bs:List Blk} {W0 A B:World} {lc p:Nat} {l:List Int} {v:Value} {L:List (Int × Int)} (h:EdS bs W0 lc p l A v L) (hb:Below A.heap.size A B):EdS bs W0 lc p l B v L:=
 ⟨(hb.block _ (Array.getElem?_eq_some_iff.1 h.head).1).trans h.head,dG h.own hb,h.srt,h.eb.then_ hb⟩
theorem EdS.rec_ {bs:List Blk} {W0 A B:World} {lc p lr:Nat} {l:List Int} {v:Value} {L:List (Int × Int)} (h:EdS bs W0 lc p l A v L) (hr:Rec lr A B) (hl:W0.heap.size<=lr):EdS bs W0 lc p l B v L:=by
 refine ⟨hr.cells h.head,⟨h.own.1,?_⟩,h.srt,⟨hr.os.trans h.eb.os,hr.tape.trans h.eb.tape,hr.output.trans h.eb.output,by rw [hr.size];exact h.eb.size,fun k hk hne=>(hr.block k (by omega)).trans (h.eb.keep k hk hne)⟩⟩;rcases h.own.2 with hn | ⟨g,cap,cur,hv,hg,hh,rest⟩
 ·exact .inl hn
 ·exact .inr ⟨g,cap,cur,hv,hg,hr.cells hh,rest⟩
theorem EdS.more {bs:List Blk} {W0 A:World} {lc p:Nat} {l:List Int} {v:Value} {L:List (Int × Int)} (h:EdS bs W0 lc p l A v L) {s:List Int} (hs:Srt s (folP bs p)) {j:Nat} (hj:j<s.length) (hl:l=s.take j):Srt2 (L ++ [((p:Int),s[j])]) (fun z=>folP bs z.1 z.2/\(z.1<(p:Int)\/(z.1=(p:Int)/\z.2∈s.take (j+1)))):=by
 have hf:folP bs p s[j]:=(hs.2 _).1 (bM hj);refine (h.srt.push (q:=((p:Int),s[j])) fun z hz=>?_).iff fun z=>?_
 ·rcases hz.2 with e | ⟨e,e2⟩
  ·exact .inl e
  ·refine .inr ⟨e,?_⟩;rw [hl] at e2;obtain ⟨i,hi,e3⟩:=List.getElem_of_mem e2;rw [cM] at hi;rw [List.getElem_take] at e3;rw [<- e3];exact List.pairwise_iff_getElem.1 hs.1 i j (by omega) hj (by omega)
 ·rw [bF hj,hl];simp only [cK,bR];constructor
  ·rintro (⟨a,b⟩ | rfl)
   ·exact ⟨a,b.imp id (fun ⟨c,d⟩=>⟨c,.inl d⟩)⟩
   ·exact ⟨hf,.inr ⟨rfl,.inr rfl⟩⟩
  ·rintro ⟨a,b | ⟨c,d | d⟩⟩
   ·exact .inl ⟨a,.inl b⟩
   ·exact .inl ⟨a,.inr ⟨c,d⟩⟩
   ·exact .inr (Prod.ext c d)
theorem EdS.next {bs:List Blk} {W0 A:World} {lc p:Nat} {v:Value} {L:List (Int × Int)} {s:List Int} (h:EdS bs W0 lc p s A v L) (hs:Srt s (folP bs p)):EdS bs W0 lc (p+1) [] A v L:=
 ⟨h.head,h.own,h.srt.iff fun z=>by
   constructor
   ·rintro ⟨a,b | ⟨b,c⟩⟩
    ·exact ⟨a,.inl (by omega)⟩
    ·exact ⟨a,.inl (by omega)⟩
   ·rintro ⟨a,b | ⟨_,c⟩⟩
    ·refine ⟨a,?_⟩;by_cases e:z.1=(p:Int)
     ·exact .inr ⟨e,(hs.2 _).2 (by rw [<- e];exact a)⟩
     ·exact .inl (by omega)
    ·exact absurd c List.not_mem_nil,h.eb⟩
theorem xE (b:Bdy) (bh:BH) (w:World) (H:BdAt w b bh) (hc:cntB b.blocks<=1000000) (hl:b.blocks.length<=1000000) (ht:∀x∈b.blocks,x.term.targets.length<=1000000000000):
 Calls Tryz.prog 53 #[.agg (bdC b bh).toArray] w fun e' w'=>∃A c L,e' = .returned (.slice A L.length c)/\Srt2 L (fun z=>folP b.blocks z.1 z.2)/\Slc 2 RPr w' A c L/\Below w.heap.size w w':=by
 have HH:=aF H;have HT:=aF ht;have HS:=aF (fun (W:World) (hb:Below w.heap.size w W)=>kZ b bh W (H.keep hb) (by rw [fR];omega) hl);have HN:=aF (fun (W:World) (hb:Below w.heap.size w W)=>fun i k x hx hk FA fc hf=>xAF b bh i k x hx hk FA fc W (H.keep hb) hf (by omega) (ht x (List.mem_of_getElem? hx)));have HA:=aF (fun (W:World)=>xEA b bh W);have HY:=aF (cQ w (#[Value.string b.name,.slice bh.A1 b.regions.length bh.c1,.slice bh.A2 b.outl.length bh.c2,.slice bh.A3 b.types.length bh.c3,.slice bh.A4 b.locals.length bh.c4,.int .i64 b.args,.slice bh.A5 b.blocks.length bh.c5]).toList 28);unfold bdC at *;refine (callsIn_wide (n:=5)).1 ?_;refine callsIn_of_wp_marks Tryz.func53 rfl trivial ?_ rfl;simp only [Tryz.ntmps53,List.size_toArray,bK,bO,Nat.reduceAdd,Nat.reduceSub,Array.replicate_succ,Array.replicate_zero,List.push_toArray,List.append_toArray,List.nil_append,List.cons_append];obtain ⟨W1,hW1⟩:∃W,(w.alloc (.cells #[Value.string b.name,.slice bh.A1 b.regions.length bh.c1,.slice bh.A2 b.outl.length bh.c2,.slice bh.A3 b.types.length bh.c3,.slice bh.A4 b.locals.length bh.c4,.int .i64 b.args,.slice bh.A5 b.blocks.length bh.c5] 28)).alloc (.cells #[.slice none 0 0] 23)=W:=⟨_,rfl⟩;have hb1:Below w.heap.size w W1:=by rw [<- hW1];exact aH
 have HX:Hid (∀i v,(#[Value.string b.name,.slice bh.A1 b.regions.length bh.c1,.slice bh.A2 b.outl.length bh.c2,.slice bh.A3 b.types.length bh.c3,.slice bh.A4 b.locals.length bh.c4,.int .i64 b.args,.slice bh.A5 b.blocks.length bh.c5]).toList[i]?=some v->W1.cell? ⟨w.heap.size,i,none⟩=some v):=aF (fun i v hi=>by rw [<- hW1];exact cO ((aX _ _).alloc (aY _) _) (HY.out i v hi));have HL1:Hid (W1.heap[w.heap.size+1]?=some (.cells #[.slice none 0 0] 23 (0,0))):=aF (by rw [<- hW1];exact eS _ _ _ (by simp));obtain ⟨y0,y1,y2,y3,y4,y5,y6⟩:=aS HX.out;clear HY
 gi_wp2_with (first
  | (refine ⟨trivial,?_⟩;gi_at_call 85;refine (callsIn_wide.2 (HS.out _ hb1)).mono ?_;rintro e' w2 ⟨⟨FA,fc,rfl,hf⟩,hb2⟩;have HF:=aF hf;have HB2:=aF hb2;have hlw2:w.heap.size<w2.heap.size:=bN (cD W1 _ y0) hb2.size;have hlw3:w.heap.size+1<w2.heap.size:=bN (Array.getElem?_eq_some_iff.1 HL1.out).1 hb2.size;replace y0:=cO hb2 y0;replace y1:=cO hb2 y1;replace y2:=cO hb2 y2;replace y3:=cO hb2 y3;replace y4:=cO hb2 y4;replace y5:=cO hb2 y5;replace y6:=cO hb2 y6;clear hf hb2)
  | (refine ⟨trivial,?_⟩;gi_at_call 86;refine (callsIn_wide.2 (HA.out _)).mono ?_;rintro e' w' ⟨rfl,rfl⟩))
 obtain ⟨W0,hW0⟩:∃W,(w2.alloc (.cells #[.slice FA (b.blocks.length+1) fc] 34)).alloc (.cells #[Value.string b.name,.slice bh.A1 b.regions.length bh.c1,.slice bh.A2 b.outl.length bh.c2,.slice bh.A3 b.types.length bh.c3,.slice bh.A4 b.locals.length bh.c4,.int .i64 b.args,.slice bh.A5 b.blocks.length bh.c5] 28)=W:=⟨_,rfl⟩;rw [hW0];have hb20:Below w2.heap.size w2 W0:=by rw [<- hW0];exact aH
 have hz0:W0.heap.size=w2.heap.size+1+1:=by rw [<- hW0];simp
 have hbw2:Below w.heap.size w w2:=hb1.trans (HB2.out.mono hb1.size);have HB0:=aF (hbw2.trans (hb20.mono hbw2.size));have h6:W0.cell? ⟨w2.heap.size+1,6,none⟩=some (.slice bh.A5 b.blocks.length bh.c5):=by rw [<- hW0];clear hW0;go_simp
 have HF0:Hid (W0.cell? ⟨w2.heap.size,0,none⟩=some (.slice FA (b.blocks.length+1) fc)):=aF (by rw [<- hW0];clear hW0;go_simp);have HX0:Hid (∀i v,(#[Value.string b.name,.slice bh.A1 b.regions.length bh.c1,.slice bh.A2 b.outl.length bh.c2,.slice bh.A3 b.types.length bh.c3,.slice bh.A4 b.locals.length bh.c4,.int .i64 b.args,.slice bh.A5 b.blocks.length bh.c5]).toList[i]?=some v->W0.cell? ⟨w.heap.size,i,none⟩=some v):=aF (fun i v hi=>cO hb20 (cO HB2.out (HX.out i v hi)));have HL0:Hid (W0.heap[w.heap.size+1]?=some (.cells #[.slice none 0 0] 23 (0,0))):=aF ((hb20.block _ (by have:=HB2.out.size;have:=(Array.getElem?_eq_some_iff.1 HL1.out).1;omega)).trans ((HB2.out.block _ (Array.getElem?_eq_some_iff.1 HL1.out).1).trans HL1.out));have hlc:w.heap.size+1<W0.heap.size:=(Array.getElem?_eq_some_iff.1 HL0.out).1;have HFS:=aF (HF.out.keep RInt.keeps hb20);have hseq:=xDZ (5 - 1) (by omega) b bh (w2.heap.size+1) w W0 HB0.out HH.out h6 (by omega);obtain ⟨i0,hi0,hq0,hq1,hq2⟩:=info_parts xBO;clear hW0 hW1 y0 y1 y2 y3 y4 y5 y6 h6 HA HS HL1 HX hb20 hb1 HB2 HF
 refine iV rfl (by omega) (gf:=125) (lb:= #[.pointer (some ⟨w2.heap.size+1,0,none⟩)]) rfl trivial (enters_of Tryz.func125 (by kernel_rfl) rfl)
  hseq (aX _ _) (by rintro k (hk | rfl) <;> have:=HB0.out.size <;> omega) (fun _=>rfl)
  (fun pre W=>∃v L,EdS b.blocks W0 (w.heap.size+1) pre.length [] W v L)
  (fun _ _ _=>False)
  (fun s A B ⟨v,L,hs⟩ ht=>⟨v,L,hs.turn hlc rfl ht⟩) (fun _ _ _ _ hs _=>hs)
  ⟨_,[],HL0.out,World.ownsRow_nil _ _ _ _,Srt2.nil (fun z hz=>by rcases hz.2 with h | ⟨_,h⟩;have:=(fX hz.1).1;simp at h;omega;cases h),Eb.refl _ _⟩ ?round ?done ?stop
 case round=>
  rintro lr pre x post W hL hlr ⟨rr,hr⟩ hWs ⟨v,L,hE⟩;obtain ⟨rfl,hx⟩:=vW hL;rw [List.length_range] at hE;obtain ⟨⟨i,k⟩,hloc⟩:=lO (bs:=b.blocks) (p:=(x:Int)) (by omega) (by omega);obtain ⟨y,hy,hk,hi⟩:=mI hloc;have hpx:Hid (stB b.blocks i+k=x):=aF (by obtain ⟨_,_,_,h3⟩:=eD.1 hloc;omega);have hln:locN b.blocks x=(i,k):=by unfold locN;rw [hloc];rfl
  simp only [encL,hln,List.zip_toArray,List.zip_cons_cons];gi_wp2
  refine ⟨(Kb.refl _ _ _ _).alloc _,fun W2 hrec=>?_⟩;obtain ⟨WL,hWL⟩:∃X,W.alloc (.cells #[.int .i64 i,.int .i64 k] 136)=X:=⟨_,rfl⟩;rw [hWL] at hrec;have hbl1:Below W.heap.size W WL:=by rw [<- hWL];exact (aX _ _).alloc (aY _) _
  have hE2:=(hE.then_ hbl1).rec_ hrec hlr;obtain ⟨l0,l1⟩:=xBH W (.int .i64 i) (.int .i64 k) 136;rw [hWL] at l0 l1;replace l0:=hrec.cell l0;replace l1:=hrec.cell l1;have hsz2:W2.heap.size=W.heap.size+1:=by rw [hrec.size,<- hWL];simp
  have hw0:w.heap.size<W0.heap.size:=by omega
  have HX2:=fun i v hi=>(World.cell?_of_block (a:=⟨w.heap.size,i,none⟩) (hE2.eb.keep w.heap.size hw0 (by omega))).trans (HX0.out i v hi)
  have f0:=(World.cell?_of_block (a:=⟨w2.heap.size,0,none⟩) (hE2.eb.keep w2.heap.size (by omega) (by have:=hbw2.size;omega))).trans HF0.out;have hb02:=hE2.eb.below HB0.out (Nat.le_succ _);have HNX:=aF (HN.out W2 hb02 i k y hy hk FA fc (hE2.eb.ints HL0.out (by intro q x h;cases h) HFS.out));rw [hpx.out] at HNX;have HE2:=aF hE2;have HLR:=aF hlr;have y0:=HX2 0 _ rfl;have y1:=HX2 1 _ rfl;have y2:=HX2 2 _ rfl;have y3:=HX2 3 _ rfl;have y4:=HX2 4 _ rfl;have y5:=HX2 5 _ rfl;have y6:=HX2 6 _ rfl;clear hE hE2 HX2 hWL hbl1 hb02 hseq hrec hr hy hk hi hloc hln;gi_wp2_with (refine ⟨trivial,?_⟩;gi_at_call 87;refine (CallsIn.inRound _ (callsIn_wide.2 HNX.out)).mono ?_;rintro e' w3 ⟨SA,sc,s,rfl,hsr,hsl,hfr,hb3⟩;have HSR:=aF hsr;have HSL:=aF hsl;have HFR:=aF hfr;have HB3:=aF hb3;have HE3:=aF (HE2.out.then_ hb3);have hs3:=hb3.size;clear hsr hsl hfr hb3 y0 y1 y2 y3 y4 y5 y6 l0 l1 f0)
  have hsle:=HSL.out.le;have hsbg:=HSL.out.big;gi_loopw [8,20] (fun _ j wr=>∃(m:Nat) (v:Value) (L:List (Int × Int)),j = .int .i64 m/\m<=s.length/\Hid (EdS b.blocks W0 (w.heap.size+1) x (s.take m) wr v L)/\Hid (Kb (fun k=>k<w.heap.size\/k=w2.heap.size+1) (w2.heap.size+1+1) (fun _=>false) W2 wr)/\w3.heap.size<=wr.heap.size/\Hid (∀a,SA=some a->a.block<w3.heap.size->wr.heap[a.block]?=w3.heap[a.block]?)/\Hid (∀a,SA=some a->a.block<w3.heap.size->v.ownBlock≠some a.block)) (fun _ j _=>s.length - (intOf j).toNat)
  case atStart=>
   refine ⟨0,v,L,rfl,by omega,HE3,aF ((Kb.refl _ _ _ _).then_ HB3.out),aY _,aF (fun _ _ _=>rfl),aF (fun a ha hl he=>?_)⟩;have h1:=HFR.out a ha;have h2:=(HE2.out.own.lt _ he).2;omega
  case round=>
   obtain ⟨m,v,L,rfl,hm,HE,HK,hsz,HSB,HNE⟩:=hrel;by_cases hlt:m<s.length
   case neg=>
    have hms:m=s.length:=(by omega);subst hms;rw [bZ] at HE;gi_wp2
    exact ⟨HK.out,v,L,by rw [bB,List.length_range];exact HE.out.next HSR.out⟩
   case pos=>
   obtain ⟨sb,so,hSA,hsb,hx0⟩:=(zG HSL.out hsz HSB.out).sl.at_ hlt;have x0:wr.cell? ⟨sb,so+m,none⟩=some (.int .i64 s[m]):=by simpa [RInt] using hx0
   have HMO:=aF (HE.out.more HSR.out hlt rfl);generalize s[m]=q at *;have hh:=HE.out.head;have c0:wr.cell? ⟨w.heap.size+1,0,none⟩=some v:=dS (l:=[v]) hh 0 _ rfl;have hfz:wr.frozen? ⟨w.heap.size+1,0,none⟩=false:=by simp [World.frozen?,hh]
   have hown:=HE.out.own;obtain ⟨VA,vc,rfl⟩:=dE hown;have hLn:=zD (n:=cntB b.blocks) HE.out.srt (fun z hz=>fX hz.1);have hLb:L.length<=1000000000000:=bX hLn (bX (Nat.mul_le_mul hc hc) (by omega));rw [hSA];have HSA:=aF hSA;have hown2:=hown.alloc (.cells #[.int .i64 (x:Int),.int .i64 q] 43);clear hx0 hSA hLn;have hszW:=HE.out.eb.size;gi_wp2_with (gi_at_builtin;refine wpListIn_append_own_at _ rfl _ _ 23 rfl W0.heap.size 43 i0 _ 2 16 Tryz.underlying23 hi0 hq0 hq1 hq2 rfl (by decide) (.slice VA L.length vc) _ _ rfl hown2 ⟨wr.heap.size,0,none⟩ 1 1 (prC ((x:Int),q)) rfl rfl (fun j u hj=>by rw [add0];exact gI _ _ _ j u hj) (fun u hu=>by simp [prC] at hu;rcases hu with rfl | rfl <;> rfl) (by unfold maxLen;omega) (by omega) (by simp;omega) ?_;intro v' w5 hown' hgrow _ hloc;obtain ⟨VB,vd,rfl⟩:=dE hown';have hh5:w5.heap[w.heap.size+1]?=some (.cells #[.slice VA L.length vc] 23 (0,0)):=(hgrow.block _ (by simp;omega) (dV hown2 (by omega))).trans (((aX _ _).alloc (aY _) _).block _ (by omega) |>.trans hh);have c5:=dS (l:=[.slice VA L.length vc]) hh5 0 _ rfl;have hf5:w5.frozen? ⟨w.heap.size+1,0,none⟩=false:=by simp [World.frozen?,hh5])
   have hal:Below wr.heap.size wr (wr.alloc (.cells #[.int .i64 (x:Int),.int .i64 q] 43)):=(aX _ _).alloc (aY _) _;have hlo:=fun g hg=>(hown2.lt g hg).1
   have hset:∀k,k≠w.heap.size+1->(w5.setCell ⟨w.heap.size+1,0,none⟩ (.slice VB (L.length+1) vd)).heap[k]?=w5.heap[k]?:=fun k hk=>bH w5 ⟨w.heap.size+1,0,none⟩ _ k hk
   go_roundw
   case rel=>
    refine ⟨m+1,_,L ++ [((x:Int),q)],by go_num,by omega,aF ⟨xAQ hh5,?_,HMO.out,((HE.out.eb.then_ hal).grown hgrow hlo).set 0 _⟩,aF ?_,?_,aF ?_,aF ?_⟩
    ·rw [bB,cA];refine dI (A:=w5) (by simpa using hown') (fun k hk _ _=>hset k (by omega))
    ·refine ((HK.out.then_ hal).grown hgrow (fun g hg=>⟨.inl (fun h=>?_),.inr (.inr ?_)⟩)).setLow (p:=⟨w.heap.size+1,0,none⟩) _ (by simp;omega) (by simp;omega)
     ·have:=hlo g hg;rcases h with h | h <;> omega
     ·rcases hown2.2 with ⟨h1,_⟩ | ⟨g',cap,cur,h1,_,h2,_⟩
      ·rw [h1] at hg;cases hg
      ·rw [h1] at hg;injection hg with hg;subst hg;exact ⟨_,_,_,h2,rfl⟩
    ·have:=hgrow.size;simp at this ⊢;omega
    ·intro a ha hla;rw [<- HSA.out] at ha;have h1:=HFR.out a ha;have h2:=HE2.out.eb.size;refine (hset a.block (by omega)).trans ((hgrow.block a.block (by simp;omega) (fun e=>HNE.out a ha hla e.symm)).trans ((hal.block _ (by omega)).trans (HSB.out a ha hla)))
    ·intro a ha hla e;rw [<- HSA.out] at ha;rcases hloc with h | h
     ·exact HNE.out a ha hla (by rw [<- h];simpa using e)
     ·have:some a.block=some (wr.alloc (.cells #[.int .i64 (x:Int),.int .i64 q] 43)).heap.size:=by rw [<- h];simpa using e.symm
      injection this with this
      simp at this;omega
   case measure=>simp [intOf];omega
 case done=>
  rintro D W hD ⟨v,L,hE⟩ hK;rw [List.length_range] at hE;have c0:=dS (l:=[v]) hE.head 0 _ rfl;have hE2:=aF hE;obtain ⟨SA,sc,rfl,hsl⟩:=xCP hE.own rfl;have HSL:=aF hsl;clear hE hsl hseq;gi_wp2
  refine ⟨by simp,.inl ⟨_,_,rfl,run_takeDeferred (w:=W) hK,?_⟩⟩;refine ⟨_,results_tmp rfl _ _ _,SA,sc,L,rfl,hE2.out.srt.iff fun z=>?_,HSL.out.keepC RPr.keepsC (Kc.put _ hK (fun cs e z h=>by cases h)),below_put (hE2.out.eb.below HB0.out (Nat.le_succ _)) (by have:=HB0.out.size;omega)⟩
  ·constructor
   ·exact fun h=>h.1
   ·intro h;have:=fX h;exact ⟨h,.inl this.2.1⟩
 case stop=>exact fun _ _ _ _ _ _ _ _ h=>h.elim
end
end Go.Proofs.YtcfchohkmkilpaaGreatDoor
