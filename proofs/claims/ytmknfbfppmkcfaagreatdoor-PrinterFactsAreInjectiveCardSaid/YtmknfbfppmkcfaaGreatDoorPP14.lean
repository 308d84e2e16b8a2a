/-
  Parts of the proof: Y16 Y17.
-/
import Derived.Test.YtmknfbfppmkcfaaGreatDoorPP0
import Derived.Test.YtmknfbfppmkcfaaGreatDoorPP13
import Derived.Test.YtmknfbfppmkcfaaGreatDoorPP10
import Derived.Test.YtmknfbfppmkcfaaGreatDoorPP12
import Derived.Deep.CutBlock
namespace Go.Proofs.YtmknfbfppmkcfaaGreatDoor
set_option maxRecDepth 100000
set_option maxHeartbeats 16000000
section
open Go Go.RowKit
def rR6:List UInt8:=[125,10]
def rR5 (b:Bdy) (i:Nat):List UInt8:=numP (lZ b.locals b.regions) i (b.blocks.drop i) ++ rR6
def rR4 (b:Bdy) (i:Nat):List UInt8:=numP (oI b.args) i (b.locals.drop i) ++ rR5 b 0
def rR3 (b:Bdy) (i:Nat):List UInt8:=numP (nL b.regions) i (b.types.drop i) ++ rR4 b 0
def rR2 (b:Bdy):List UInt8:=outsP b.regions b.outl ++ rR3 b 0
def rR1 (b:Bdy):List UInt8:=regsP b.regions ++ rR2 b
theorem pH (b:Bdy):printP b=headP [98,111,100,121] b ++ rR1 b:=by
 simp [printP,rR1,rR2,rR3,rR4,rR5,rR6]
theorem uY {b:Bdy} {i:Nat} (h:i<b.types.length):rR3 b i=nL b.regions i b.types[i] ++ rR3 b (i+1):=by
 unfold rR3;rw [cS h,hO,bM]
theorem xQ {b:Bdy} {i:Nat} (h:b.types.length<=i):rR3 b i=rR4 b 0:=by unfold rR3;rw [bE h];rfl
theorem uX {b:Bdy} {i:Nat} (h:i<b.locals.length):rR4 b i=oI b.args i b.locals[i] ++ rR4 b (i+1):=by
 unfold rR4;rw [cS h,hO,bM]
theorem xP {b:Bdy} {i:Nat} (h:b.locals.length<=i):rR4 b i=rR5 b 0:=by unfold rR4;rw [bE h];rfl
theorem uW {b:Bdy} {i:Nat} (h:i<b.blocks.length):rR5 b i=lZ b.locals b.regions i b.blocks[i] ++ rR5 b (i+1):=by
 unfold rR5;rw [cS h,hO,bM]
theorem xO {b:Bdy} {i:Nat} (h:b.blocks.length<=i):rR5 b i=rR6:=by unfold rR5;rw [bE h];rfl
structure FitB (b:Bdy):Prop where
 ty:∀t∈b.types,FitT t
 lc:∀l∈b.locals,fitN l.type
 st:∀x∈b.blocks,∀s∈x.stmts,FitS s
 tm:∀x∈b.blocks,FitTm x.term
structure PW (w0:World) (n g:Nat) (b:Bdy) (bh:BH) (bs:List UInt8) (d:Nat) (W:World):Prop where
 L:Lives w0 (g+2) g b bh bs d W
 bd:W.heap[n]?=some (.cells (bdC b bh).toArray 28 (0,0))
 pc:W.heap[g+1]?=some (.cells [Value.pointer (some ⟨g,0,none⟩)].toArray 66 (0,0))
 ng:n<g
theorem PW.keep {w0:World} {n g:Nat} {b:Bdy} {bh:BH} {bs:List UInt8} {d:Nat} {W W':World} (P:PW w0 n g b bh bs d W) (hb:Below W.heap.size W W'):PW w0 n g b bh bs d W':=
 ⟨P.L.keep hb,cL P.bd hb,cL P.pc hb,P.ng⟩
theorem PW.fr {w0:World} {n g:Nat} {b:Bdy} {bh:BH} {bs bs':List UInt8} {d d':Nat} {W W':World} (P:PW w0 n g b bh bs d W) (L:Lives w0 (g+2) g b bh bs' d' W') (hf:Fr g W W'):PW w0 n g b bh bs' d' W':=
 ⟨L,heap_fr P.bd hf (by have:=P.ng;omega) (by decide),heap_fr P.pc hf (by omega) (by decide),P.ng⟩
theorem PW.cells {w0:World} {n g:Nat} {b:Bdy} {bh:BH} {bs:List UInt8} {d:Nat} {W:World} (P:PW w0 n g b bh bs d W):(aA (bdC b bh) W n)/\W.cell? ⟨g+1,0,none⟩=some (.pointer (some ⟨g,0,none⟩)):=
 ⟨cO P.bd,cO P.pc 0 _ rfl⟩
theorem rB {b:Bdy} (M:Nat) (hM:2<=M) (hok:Okay b.types b.locals) (hg:∀t∈b.types,t.flds.length<=M) {s:Stm} (h:stE b s=0):s.rv.args.length<=M:=by
 have hs:=nB hok h;by_cases h0:s.kind=0
 ·obtain ⟨-,-,hr⟩:=hs.asg h0;have hk:=hr.kind;obtain hv | hv | hv | hv | hv:s.rv.kind=0\/s.rv.kind=1\/s.rv.kind=2\/s.rv.kind=3\/s.rv.kind=4:=by omega
  ·have:=hr.use hv;omega
  ·rw [(hr.isb hv).2.1];simp
  all_goals
   unfold stE at h;rw [bA h0] at h;split at h
   ·cases h
   split at h
   ·exact absurd h ‹_›
   rename_i hw;have ht:=jH (Decidable.not_not.1 hw);obtain ⟨t0,t1⟩:=fZ hok ht;obtain ⟨ty,hty⟩:∃ty,b.types[(tyB b s.place).1.toNat]?=some ty:=⟨_,bD (show (tyOf b.types b.locals s.place.loc s.place.proj).1.toNat<b.types.length by omega)⟩;have hm:=hg ty (List.mem_of_getElem? hty);generalize (tyB b s.place).1=t at h hty;unfold rvE at h;split at h
   ·cases h
   split at h
   ·cases h
   rename_i h2;rw [Bool.not_eq_false] at h2;unfold unusedR at h2;simp only at h2
  ·simp only [hv,if_true,if_false,bQ,decide_eq_true_eq,Int.reduceEq] at h2;omega
  ·simp only [hv,if_true,if_false,bQ,decide_eq_true_eq,Int.reduceEq] at h2;omega
  ·rw [aZ (by omega),aZ (by omega),aZ (by omega),aZ (by omega),hty] at h;simp only at h;split at h
   ·cases h
   omega
 ·rw [(hs.oth h0).2];simp
theorem kL {b:Bdy} (hok:Okay b.types b.locals) (hg:∀t∈b.types,t.flds.length<=65535) {s:Stm} (h:stE b s=0):s.rv.args.length<=1000000:=
 bZ (rB 65535 (by omega) hok hg h) (by omega)
theorem qD {b:Bdy} {t:Trm} (h:tmE b t=0):t.args.length<=1000000:=by
 have ho:=nA h;by_cases h3:t.kind=3
 ·unfold tmE at h;split at h
  ·cases h
  split at h
  ·cases h
  split at h
  ·cases h
  try rw [aZ (show ¬t.kind=1 by omega)] at h
  try rw [bA h3] at h
  split at h
  ·cases h
  split at h
  ·cases h
  omega
 ·by_cases h4:t.kind=1
  ·rw [(ho.two h4).2];decide
  ·rw [ho.noargs h4 h3];simp
theorem pJ (r:ByteArray) (w:World) (hz:Sm (39 :: bl r)):Calls Tryz.prog 30 #[.string r] w fun e' w'=>e' = .returned (tx (39 :: bl r))/\Below w.heap.size w w':=by
 have hr:=jG r;obtain ⟨t,ht⟩:∃t,bl r=t:=⟨_,rfl⟩;rw [ht] at hr hz ⊢;subst hr;have hz0:¬(9223372036854775807<1+t.length):=by have:=hz;simp only [Sm,bK] at this;omega
 have ea:=ba_r #[39] t;clear ht hz;go_enter Tryz.func30,Tryz.ntmps30
 go_wp2_with fail
 go_ret;exact ⟨rfl,aX _ _⟩
theorem pI {w:World} {g q:Nat} {b:Bdy} {bh:BH} (C:Ctx w g b bh) (hq:w.cell? ⟨q,0,none⟩=some (.pointer (some ⟨g,0,none⟩))) (x:Int × Int) (hx:OkOut b.regions.length x) (hz:Sm (outP b.regions x)):
 Calls Tryz.prog 32 #[.agg #[.int .i64 x.1,.int .i64 x.2],.pointer (some ⟨q,0,none⟩)] w fun e' w'=>e' = .returned (tx (outP b.regions x))/\Below w.heap.size w w':=by
 obtain ⟨x1,x2⟩:=x
 have hzz:(rgP b.regions x1).length+(rgP b.regions x2).length+3<=140737488355328:=by
  unfold outP at hz;simp only [Sm,bB,bK,bP] at hz;omega
 have HB0:=aF (fun (o:Obj)=>(aX w.heap.size w).alloc (aY _) o);have HR1:=aF (fun (W:World) (hb:Below w.heap.size w W)=>fE b.regions g bh.A1 bh.c1 x1 W (C.keep hb).regs (C.keep hb).at_.reg hx.1 (by show (rgP b.regions x1).length<=_;omega));have HR2:=aF (fun (W:World) (hb:Below w.heap.size w W)=>fE b.regions g bh.A1 bh.c1 x2 W (C.keep hb).regs (C.keep hb).at_.reg hx.2 (by show (rgP b.regions x2).length<=_;omega));obtain ⟨r1,h1⟩:∃r,rgP b.regions x1=r:=⟨_,rfl⟩;obtain ⟨r2,h2⟩:∃r,rgP b.regions x2=r:=⟨_,rfl⟩;have HE:Hid (outP b.regions (x1,x2)=39 :: (r1 ++ [32,39] ++ r2)):=aF (by unfold outP;simp only;rw [h1,h2]);rw [h1,h2] at hzz;rw [h1] at HR1;rw [h2] at HR2;have hz1:¬(9223372036854775807<r1.length+1+1):=by omega
 have hz2:¬(9223372036854775807<r1.length+1+1+(r2.length+1)):=by omega
 have hqs:q<w.heap.size:=cD w _ hq;have hqq:∀o,((w.alloc o).drew).cell? ⟨q,0,none⟩=some (.pointer (some ⟨g,0,none⟩)):=fun o=>cJ ((aX _ _).drew) (cJ ((aX _ _).alloc (aY _) o) hq)
 clear hz hzz h1 h2 hx C;go_enter Tryz.func32,Tryz.ntmps32
 go_wp2_with fail
 refine cQ (S:=fun X=>(aA [Value.int .i64 x1,.int .i64 x2] X w.heap.size)/\X.cell? ⟨q,0,none⟩=some (.pointer (some ⟨g,0,none⟩))) [0,1,2,5,6,7,3,4,8,9,10] (by kernel_rfl) ?_;have hS:(∀i v,[Value.int .i64 x1,.int .i64 x2][i]?=some v->(w.alloc (.cells #[.int .i64 x1,.int .i64 x2] 77)).drew.cell? ⟨w.heap.size,i,none⟩=some v)/\(w.alloc (.cells #[.int .i64 x1,.int .i64 x2] 77)).drew.cell? ⟨q,0,none⟩=some (.pointer (some ⟨g,0,none⟩)):=⟨cP w _ _,hqq _⟩;clear hqq;(iterate 6 (refine cR (v:=?_) ?_ hS ?_;rotate_left;(next=>(rintro X ⟨hX,hQ⟩;obtain ⟨s0,s1⟩:=aN hX;(try simp only [aI]);go_simp;rfl));simp only [aM]));(refine cM (fun K1 hK1=>?_);simp only [aM];rw [bA (by rfl)];go_simp);refine (HR1.out _ (HB0.out _).drew).mono ?_;rintro e' w3 ⟨rfl,hw⟩;obtain rfl:=hw.symm;refine hK1.out _ _ (fun _=>hS) ?_;refine cU (v:=tx (39 :: (r1 ++ [32]))) (by kernel_rfl) (fun _ _ _ h=>h) (Or.inl ⟨by rfl,?_⟩) hS ?_
 ·rintro X hX;(try simp only [aI]);go_simp;exact (ba_app' _ _).trans (by simp [bl])
 (simp only [aM]);(refine cM (fun K1 hK1=>?_);simp only [aM];rw [bA (by rfl)];go_simp);refine (HR2.out _ (HB0.out _).drew).mono ?_;rintro e' w3 ⟨rfl,hw⟩;obtain rfl:=hw.symm;refine hK1.out _ _ (fun _=>hS) ?_;refine cU (v:=tx (39 :: (r1 ++ 32 :: 39 :: r2))) (by kernel_rfl) (fun _ _ _ h=>h) (Or.inl ⟨by rfl,?_⟩) hS ?_
 ·rintro X hX;(try simp only [aI]);go_simp;exact (ba_app' _ _).trans (by simp [bl])
 (simp only [aM]);((refine cR (v:=?_) ?_ hS ?_;rotate_left;(next=>(rintro X -;(try simp only [aI]);go_simp;rfl));simp only [aM]))
 refine cV ?_;go_wp2_with fail
 go_ret;exact ⟨by rw [HE.out];refine congrArg (fun l=>Ending.returned (Value.string l)) (ByteArray.ext ?_);simp,(HB0.out _).drew⟩
theorem pV {b:Bdy} (D:DeclOk b):∀t∈b.types,t.flds.length<=65535:=fun t ht=>by
 obtain ⟨i,hi,rfl⟩:=List.mem_iff_getElem.1 ht;have hg:=D.good i hi;by_cases h4:(b.types[i]).kind=4
 ·exact hg.2.2.2.2.1 h4
 ·rw [hg.2.2.2.2.2 h4];simp
theorem eG {T bs rest:List UInt8} (h:T=bs ++ rest) {N:Nat} (hz:T.length<=N):bs.length+rest.length<=N:=by rw [h,bB] at hz;exact hz
theorem iU (b:Bdy) (bh:BH) (w:World) (H:BdAt w b bh) (hT:TabsOk w) (hpow:PowTab w) (hsp:SpTab w) (hf:FitB b) (hz:chkB b=0->(printP b).length<=100000000000000):
 Calls Tryz.prog 10 #[.agg (bdC b bh).toArray] w fun e' w'=>e' = .returned (if chkB b=0 then .tuple #[tx (printP b),.int .i64 0] else .tuple #[tx [],.int .i64 16])/\Below w.heap.size w w':=by
 have HB0:=aF (fun (o:Obj)=>(aX w.heap.size w).alloc (aY _) o);have HK0:=aF (fun (W:World) (hb:Below w.heap.size w W)=>iQ b bh W (H.keep hb) (hT.keep hb));obtain ⟨A1,c1,A2,c2,A3,c3,A4,c4,A5,c5⟩:=bh;have HK:Hid (∀W,Below w.heap.size w W->Calls Tryz.prog 27 #[.agg ([Value.string b.name,.slice A1 b.regions.length c1,.slice A2 b.outl.length c2,.slice A3 b.types.length c3,.slice A4 b.locals.length c4,.int .i64 b.args,.slice A5 b.blocks.length c5]).toArray] W fun e' w'=>e' = .returned (.int .i64 (chkB b))/\Below W.heap.size W w'):=aF (fun W hb=>HK0.out W hb);have HN0:=aF (heap_alloc_new w (.cells ([Value.string b.name,.slice A1 b.regions.length c1,.slice A2 b.outl.length c2,.slice A3 b.types.length c3,.slice A4 b.locals.length c4,.int .i64 b.args,.slice A5 b.blocks.length c5]).toArray 28));have hr1:=H.reg.le;have hr2:=H.reg.big;have ho1:=H.out.le;have ho2:=H.out.big;have ht1:=H.typ.le;have ht2:=H.typ.big;have hl1:=H.loc.le;have hl2:=H.loc.big;have hb1:=H.blk.le;have hb2:=H.blk.big;have HH:=aF H;have HHT:=aF hT;have HPOW:=aF hpow;have HSP:=aF hsp;have HF:=aF hf;have HZ:=aF hz;simp only at hr1 hr2 ho1 ho2 ht1 ht2 hl1 hl2 hb1 hb2;clear HK0 H hT hpow hsp hf hz;by_cases hc:chkB b=0
 case neg=>
  rw [aZ hc];obtain ⟨c,hce⟩:∃c,chkB b=c:=⟨_,rfl⟩;rw [hce] at hc HK;have e1:(c != 0)=true:=by simp [hc]
  clear hce hc HZ HF HN0;unfold bdC;go_enter Tryz.func10,Tryz.ntmps10
  go_wp2_with (go_at_call 27;refine (HK.out _ (HB0.out _)).mono ?_;rintro e' w1 ⟨rfl,hw1⟩;have HB1:=aF ((HB0.out _).trans (hw1.mono (HB0.out _).size));clear hw1)
  refine bodyPost_ret (v:= .tuple #[tx [],.int .i64 16]) (by simp [results,Tryz.results10,go_sem] <;> rfl) rfl ⟨rfl,HB1.out⟩
 case pos=>
 rw [bA hc];have HOK:=aF (wS hc);have HDK:=aF (eK (ychk hc).1);have hmf:∀(fn:Fn) (first cap:Array Value) (w:World),(Instr.makeFunc fn first cap).run Tryz.prog w = .ok (.func fn first cap) w:=fun _ _ _ _=>rfl
 have HZ2:=aF (HZ.out hc);have hcc0:=hc;rw [hc] at HK;have HCK:=aF hcc0;clear hc hcc0 HZ;unfold bdC at *;go_enter Tryz.func10,Tryz.ntmps10
 go_wp2_with (go_at_call 27;refine (HK.out _ (HB0.out _)).mono ?_)
 rintro e' w1 ⟨rfl,hw1⟩;have HB1:=aF ((HB0.out _).trans (hw1.mono (HB0.out _).size));have hN1:=cL HN0.out hw1;have hn1:w.heap.size<w1.heap.size:=(Array.getElem?_eq_some_iff.1 hN1).1;have hy:=cO (l:=(bdM b A1 c1 A2 c2 A3 c3 A4 c4 A5 c5 [])) hN1;have y0:=hy 0 _ rfl;have y1:=hy 1 _ rfl;have y2:=hy 2 _ rfl;have y3:=hy 3 _ rfl;have y4:=hy 4 _ rfl;have y5:=hy 5 _ rfl;have y6:=hy 6 _ rfl;clear hw1 hy HK HN0;obtain ⟨g,hg⟩:∃g,w1.heap.size=g:=⟨_,rfl⟩;obtain ⟨Wg,hWg⟩:∃W,w1.alloc (.cells #[.pointer none,.slice none 0 0,.string b.name,.slice A1 b.regions.length c1,.slice A2 b.outl.length c2,.slice A3 b.types.length c3,.slice A4 b.locals.length c4,.int .i64 b.args,.slice A5 b.blocks.length c5,.int .i64 0] 72)=W:=⟨_,rfl⟩;have hWgs:Wg.heap.size=g+1:=by rw [<- hWg,<- hg];simp
 obtain ⟨W0,hW0⟩:∃W,Wg.alloc (.cells #[.pointer (some ⟨g,0,none⟩)] 66)=W:=⟨_,rfl⟩
 have P0:PW w w.heap.size g b ⟨A1,c1,A2,c2,A3,c3,A4,c4,A5,c5⟩ [] 0 W0:=by
  have hb1:Below w1.heap.size w1 Wg:=by rw [<- hWg];exact (aX _ _).alloc (aY _) _
  have hb2:Below Wg.heap.size Wg W0:=by rw [<- hW0];exact (aX _ _).alloc (aY _) _
  have hb3:Below w.heap.size w W0:=HB1.out.trans ((hb1.mono HB1.out.size).trans (hb2.mono (by have:=HB1.out.size;omega)));have hgk:Wg.heap[g]?=some (.cells (prC b ⟨A1,c1,A2,c2,A3,c3,A4,c4,A5,c5⟩ (.pointer none) (.slice none 0 0) 0) 72 (0,0)):=by rw [<- hWg,<- hg];exact heap_alloc_new w1 _
  refine ⟨⟨HH.out,HPOW.out,HSP.out,by omega,hb3,⟨by omega,by rw [<- hW0,bI];omega,.pointer none,.slice none 0 0,.inl rfl,cL hgk hb2,World.ownsRow_nil _ _ _ _⟩⟩,cL (cL hN1 hb1) hb2,?_,by omega⟩;rw [<- hW0,<- hWgs];exact heap_alloc_new Wg _
 have HP0:=aF P0;have HT0:Hid (printP b=headP [98,111,100,121] b ++ rR1 b):=aF (pH b);have hzl:=eG HT0.out HZ2.out
 have hz1:¬(9223372036854775807<1+b.name.size):=by
  have:(headP [98,111,100,121] b).length=b.name.size+9:=by simp [headP]
  omega
 have ea:(⟨#[64]⟩:ByteArray) ++ b.name=⟨(64 :: bl b.name).toArray⟩:=(ba_app' _ _).trans (by simp [bl])
 have HL0:Hid (∀bk,RowT (W0.alloc (.cells #[tx [98,111,100,121],tx (64 :: bl b.name),tx [123]] 9)) bk [[98,111,100,121],64 :: bl b.name,[123]]->Calls Tryz.prog 28 #[.pointer (some ⟨g,0,none⟩),.slice (some ⟨bk,0,none⟩) 3 3] (W0.alloc (.cells #[tx [98,111,100,121],tx (64 :: bl b.name),tx [123]] 9)) fun e' w'=>e' = .returned (.tuple #[])/\PW w w.heap.size g b ⟨A1,c1,A2,c2,A3,c3,A4,c4,A5,c5⟩ (headP [98,111,100,121] b) 1 w'):=aF (fun bk hr=>by
  have hbw:=(aX W0.heap.size W0).alloc (aY _) (.cells #[tx [98,111,100,121],tx (64 :: bl b.name),tx [123]] 9)
  have h:=jR (HP0.out.keep hbw).L [[98,111,100,121],64 :: bl b.name,[123]] ([98,111,100,121,32,64] ++ bl b.name ++ [32]) bk hr (by rw [join3];simp) (by decide) (by simp) (by
   have:(headP [98,111,100,121] b).length=(bl b.name).length+9:=by simp [headP]
   simp only [bB,bK,bP];omega)
  refine h.mono ?_;rintro e' w' ⟨rfl,hl,hf⟩
  refine ⟨rfl,(HP0.out.keep hbw).fr (by
   have e:headP [98,111,100,121] b=[] ++ (ind 0 ++ ([98,111,100,121,32,64] ++ bl b.name ++ [32] ++ [123,10])):=by
    rw [show ind 0=[] from rfl];simp [headP]
   rw [e];exact hl) hf⟩)
 have hc0:=HP0.out.cells;have z0:=hc0.1 0 _ rfl;have zp:=hc0.2;clear hzl P0 hN1 hc0;go_upto_if 29 with (go_at_call 28;refine (HL0.out _ (dJ W0 [[98,111,100,121],64 :: bl b.name,[123]])).mono ?_;rintro e' w2 ⟨rfl,hp2⟩;have HP:=aF hp2;have hc2:=bJ (cO (l:=(bdM b A1 c1 A2 c2 A3 c3 A4 c4 A5 c5 [])) hp2.bd) (cO hp2.pc 0 _ rfl);have y1:=hc2.1 1 _ rfl;have y2:=hc2.1 2 _ rfl;have y3:=hc2.1 3 _ rfl;have y4:=hc2.1 4 _ rfl;have y5:=hc2.1 5 _ rfl;have y6:=hc2.1 6 _ rfl;have yp:=hc2.2;clear hp2 hc2)
 go_cut [] (fun wx=>∃bs,printP b=bs ++ rR2 b/\PW w w.heap.size g b ⟨A1,c1,A2,c2,A3,c3,A4,c4,A5,c5⟩ bs 1 wx)
 case first=>
  have HP1:=HP;by_cases hne:b.regions.length=0
  ·have he:b.regions=[]:=bV hne;have hnp:¬0<b.regions.length:=by omega
   have HE0:=aF he;clear he hne;go_wp2_with fail
   go_meet;exact ⟨_,by rw [HT0.out,rR1,HE0.out];rfl,HP1.out⟩
  ·have hpos:0<b.regions.length:=by omega
   obtain ⟨J,hJ⟩:∃J,comP (b.regions.map (fun r=>39 :: bl r))=J:=⟨_,rfl⟩;have hrg:regsP b.regions=[32,32,114,101,103,105,111,110,115,32] ++ J ++ semP:=by unfold regsP;rw [aZ (fun e=>hne (by rw [e];rfl)),hJ]
   have HT1:Hid (printP b=(headP [98,111,100,121] b ++ regsP b.regions) ++ rR2 b):=aF (by rw [HT0.out,rR1,bM]);have hzl:=eG HT1.out HZ2.out;rw [hrg] at hzl;simp only [bB,bK,bP] at hzl;have HB9:Hid (headP [98,111,100,121] b ++ regsP b.regions=headP [98,111,100,121] b ++ (ind 1 ++ ([114,101,103,105,111,110,115,32] ++ J ++ [59,10]))):=aF (by rw [hrg,show ind 1=[32,32] from rfl,semP];simp)
   have HJ:=aF (fun (W:World) (hb:Below w.heap.size w W)=>sF (fun r=>39 :: bl r) b.regions A1 c1 W (HH.out.reg.keep RN.keeps hb) (by rw [hJ];show J.length<=_;omega) (by have:=HDK.out.nreg;omega) (fun r hr X hX=>pJ r X (by
    have h:=jV (l:=b.regions.map (fun r=>39 :: bl r)) (39 :: bl r) (List.mem_map.2 ⟨r,hr,rfl⟩);rw [hJ] at h;show (39 :: bl r).length<=_
    omega)))
   rw [hJ] at HJ;have hz2:¬(9223372036854775807<J.length+1):=by omega
   have hz3:(headP [98,111,100,121] b).length+J.length+200<=140737488355328:=by omega
   clear hzl hrg hJ;go_wp2_with fail
   refine cQ (S:=fun X=>X.heap[w.heap.size]?=some (.cells ((bdM b A1 c1 A2 c2 A3 c3 A4 c4 A5 c5 [])).toArray 28 (0,0))/\X.heap[g+1]?=some (.cells [Value.pointer (some ⟨g,0,none⟩)].toArray 66 (0,0))) [0,1,2,3,4,5,6] (by kernel_rfl) ?_;have hS:w2.drew.heap[w.heap.size]?=some (.cells ((bdM b A1 c1 A2 c2 A3 c3 A4 c4 A5 c5 [])).toArray 28 (0,0))/\w2.drew.heap[g+1]?=some (.cells [Value.pointer (some ⟨g,0,none⟩)].toArray 66 (0,0)):=⟨HP1.out.bd,HP1.out.pc⟩;have HPD:=aF (HP1.out.keep (aX _ _).drew);(iterate 3 (refine cR (v:=?_) ?_ hS ?_;rotate_left;(next=>(rintro X ⟨hX,hQ⟩;have s1:=cO hX 1 _ rfl;have q0:=cO hQ 0 _ rfl;(try simp only [aI]);go_simp;rfl));simp only [aM]));(refine cM (fun K1 hK1=>?_);simp only [aM];rw [bA (by rfl)];go_simp);refine (HJ.out _ HPD.out.L.low).mono ?_;rintro e' w3 ⟨rfl,hw3⟩;replace hS:=bJ (cL hS.1 hw3) (cL hS.2 hw3);have HP3:=aF (HPD.out.keep hw3);clear hw3;refine hK1.out _ _ (fun _=>hS) ?_;refine cU (v:=tx (J ++ [59])) (by kernel_rfl) (fun _ _ _ h=>h) (Or.inl ⟨by rfl,?_⟩) hS ?_
   ·rintro X hX;(try simp only [aI]);go_simp;exact (ba_app' _ _).trans (by simp [bl])
   (simp only [aM]);(refine cM (fun K1 hK1=>?_);simp only [aM];rw [bA (by rfl)];go_simp);have hbw:=(aX w3.heap.size w3).alloc (aY _) (.cells #[tx [114,101,103,105,111,110,115],tx (J ++ [59])] 9);replace hS:=bJ (cL hS.1 hbw) (cL hS.2 hbw);have HPR:=aF (HP3.out.keep hbw);clear hbw;refine hK1.out _ _ (fun _=>hS) ?_;(refine cM (fun K1 hK1=>?_);simp only [aM];rw [bA (by rfl)];go_simp);refine (dN HPR.out.L [[114,101,103,105,111,110,115],J ++ [59]] ([114,101,103,105,111,110,115,32] ++ J) _ (dJ w3 [[114,101,103,105,111,110,115],J ++ [59]]) (by rw [join2];simp) (by decide) (by simp) (by simp only [bB,bK,bP];omega)).mono ?_;rintro e' w9 ⟨rfl,hl4,hf4⟩;have HPL:=aF (HPR.out.fr hl4 hf4);replace hS:=bJ HPL.out.bd HPL.out.pc;clear hl4;refine hK1.out _ _ (fun _=>hS) ?_;refine cV ?_;go_wp2_with fail
   go_meet;exact ⟨_,HT1.out,by rw [HB9.out];exact HPL.out⟩
 case rest=>
 obtain ⟨bs,hT1,hP1⟩:=hcut;have HT:=aF hT1;have HP:=aF hP1;clear hT1 hP1 HL0 HT0 HP0 HB1;have hcc:=bJ (cO (l:=(bdM b A1 c1 A2 c2 A3 c3 A4 c4 A5 c5 [])) HP.out.bd) (cO HP.out.pc 0 _ rfl);obtain ⟨-,y1,y2,y3,y4,y5,y6⟩:=aS hcc.1;have yp:=hcc.2;clear hcc;go_upto_if 40 with fail
 go_cut [] (fun wx=>∃bs,printP b=bs ++ rR3 b 0/\PW w w.heap.size g b ⟨A1,c1,A2,c2,A3,c3,A4,c4,A5,c5⟩ bs 1 wx)
 case first=>
  by_cases hne:b.outl.length=0
  ·have he:b.outl=[]:=bV hne;have hnp:¬0<b.outl.length:=by omega
   have HE0:=aF he;clear he hne;go_wp2_with fail
   go_meet;exact ⟨_,by rw [HT.out,rR2,HE0.out];rfl,HP.out⟩
  ·have hpos:0<b.outl.length:=by omega
   obtain ⟨J,hJ⟩:∃J,comP (b.outl.map (outP b.regions))=J:=⟨_,rfl⟩;have hrg:outsP b.regions b.outl=[32,32,111,117,116,108,105,118,101,115,32] ++ J ++ semP:=by unfold outsP;rw [aZ (fun e=>hne (by rw [e];rfl)),hJ]
   have HT1:Hid (printP b=(bs ++ outsP b.regions b.outl) ++ rR3 b 0):=aF (by rw [HT.out,rR2,bM]);have hzl:=eG HT1.out HZ2.out;rw [hrg] at hzl;simp only [bB,bK,bP] at hzl;have HB9:Hid (bs ++ outsP b.regions b.outl=bs ++ (ind 1 ++ ([111,117,116,108,105,118,101,115,32] ++ J ++ [59,10]))):=aF (by rw [hrg,show ind 1=[32,32] from rfl,semP];simp);have hz2:¬(9223372036854775807<J.length+1):=by omega
   have hz3:bs.length+J.length+200<=140737488355328:=by omega
   have HPD:=aF (HP.out.keep (aX _ _).drew)
   have HJ:=aF (sG (g+1) (outP b.regions) b.outl A2 c2 wc.drew (HH.out.out.keep RPr.keeps HPD.out.L.low) (by rw [hJ];show J.length<=_;omega) (by have:=HDK.out.nout;omega) (fun x hx X hX=>pI (HPD.out.L.ctx.keep hX) (cJ hX HPD.out.cells.2) x (HOK.out.out x hx) (by
    have h:=jV (l:=b.outl.map (outP b.regions)) (outP b.regions x) (List.mem_map.2 ⟨x,hx,rfl⟩);rw [hJ] at h;show (outP b.regions x).length<=_
    omega)))
   rw [hJ] at HJ;clear hzl hrg hJ;go_wp2_with fail
   refine cQ (S:=fun X=>X.heap[w.heap.size]?=some (.cells ((bdM b A1 c1 A2 c2 A3 c3 A4 c4 A5 c5 [])).toArray 28 (0,0))/\X.heap[g+1]?=some (.cells [Value.pointer (some ⟨g,0,none⟩)].toArray 66 (0,0))) [0,1,2,3,4,5,6,7] (by kernel_rfl) ?_;have hS:wc.drew.heap[w.heap.size]?=some (.cells ((bdM b A1 c1 A2 c2 A3 c3 A4 c4 A5 c5 [])).toArray 28 (0,0))/\wc.drew.heap[g+1]?=some (.cells [Value.pointer (some ⟨g,0,none⟩)].toArray 66 (0,0)):=⟨HP.out.bd,HP.out.pc⟩;(iterate 4 (refine cR (v:=?_) ?_ hS ?_;rotate_left;(next=>(rintro X ⟨hX,hQ⟩;have s2:=cO hX 2 _ rfl;have q0:=cO hQ 0 _ rfl;(try simp only [aI]);go_simp;rfl));simp only [aM]));(refine cM (fun K1 hK1=>?_);simp only [aM];rw [bA (by rfl)];go_simp);refine (HJ.out).mono ?_;rintro e' w3 ⟨rfl,hw3⟩;replace hS:=bJ (cL hS.1 hw3) (cL hS.2 hw3);have HP3:=aF (HPD.out.keep hw3);clear hw3;refine hK1.out _ _ (fun _=>hS) ?_;refine cU (v:=tx (J ++ [59])) (by kernel_rfl) (fun _ _ _ h=>h) (Or.inl ⟨by rfl,?_⟩) hS ?_
   ·rintro X hX;(try simp only [aI]);go_simp;exact (ba_app' _ _).trans (by simp [bl])
   (simp only [aM]);(refine cM (fun K1 hK1=>?_);simp only [aM];rw [bA (by rfl)];go_simp);have hbw:=(aX w3.heap.size w3).alloc (aY _) (.cells #[tx [111,117,116,108,105,118,101,115],tx (J ++ [59])] 9);replace hS:=bJ (cL hS.1 hbw) (cL hS.2 hbw);have HPR:=aF (HP3.out.keep hbw);clear hbw;refine hK1.out _ _ (fun _=>hS) ?_;(refine cM (fun K1 hK1=>?_);simp only [aM];rw [bA (by rfl)];go_simp);refine (dN HPR.out.L [[111,117,116,108,105,118,101,115],J ++ [59]] ([111,117,116,108,105,118,101,115,32] ++ J) _ (dJ w3 [[111,117,116,108,105,118,101,115],J ++ [59]]) (by rw [join2];simp) (by decide) (by simp) (by simp only [bB,bK,bP];omega)).mono ?_;rintro e' w9 ⟨rfl,hl4,hf4⟩;have HPL:=aF (HPR.out.fr hl4 hf4);replace hS:=bJ HPL.out.bd HPL.out.pc;clear hl4;refine hK1.out _ _ (fun _=>hS) ?_;refine cV ?_;go_wp2_with fail
   go_meet;exact ⟨_,HT1.out,by rw [HB9.out];exact HPL.out⟩
 case rest=>
 obtain ⟨bs2,hT1,hP1⟩:=hcut;clear HT HP y1 y2 y3 y4 y5 y6 yp;have HT:=aF hT1;have HP:=aF hP1;clear hT1 hP1;have hcc:=bJ (cO (l:=(bdM b A1 c1 A2 c2 A3 c3 A4 c4 A5 c5 [])) HP.out.bd) (cO HP.out.pc 0 _ rfl);obtain ⟨-,y1,y2,y3,y4,y5,y6⟩:=aS hcc.1;have yp:=hcc.2;clear hcc;go_upto_block 0 with fail
 go_cut [] (fun wx=>∃bs,printP b=bs ++ rR4 b 0/\PW w w.heap.size g b ⟨A1,c1,A2,c2,A3,c3,A4,c4,A5,c5⟩ bs 1 wx)
 case first=>
  go_wp2_with fail
  go_loopw [5,6,52] (fun a q i wr=>∃(k:Nat) (bs:List UInt8),i = .int .i64 k/\k<=b.types.length/\a=a/\q=q/\Hid (printP b=bs ++ rR3 b k)/\Hid (PW w w.heap.size g b ⟨A1,c1,A2,c2,A3,c3,A4,c4,A5,c5⟩ bs 1 wr)) (fun _ _ i _=>b.types.length - (intOf i).toNat)
  case atStart=>exact ⟨0,bs2,rfl,Nat.zero_le _,rfl,rfl,HT,HP⟩
  case round=>
   clear HT HP y1 y2 y3 y4 y5 y6 yp;obtain ⟨k,bs,rfl,hk,_,_,HT,HP⟩:=hrel;by_cases hlt:k<b.types.length
   case neg=>
    have HE:=aF (xQ (b:=b) (i:=k) (by omega));go_wp2_with fail
    go_meet;exact ⟨bs,by rw [HT.out,HE.out],HP.out⟩
   case pos=>
    obtain ⟨bb,oo,rfl,hbb,y⟩:=(HH.out.typ.keep RTy.keeps HP.out.L.low).sl.at_ hlt;have HTN:=aF (HT.out.trans (by rw [uY hlt]));have HOT:=aF (HOK.out.ty _ (bN hlt));have HFT:=aF (HF.out.ty _ (bN hlt));have HGT:=aF (HDK.out.good k hlt);obtain ⟨t,ht⟩:∃t,b.types[k]=t:=⟨_,rfl⟩;rw [ht] at HTN HOT HFT HGT y;clear ht HT;obtain ⟨g1,g2,g3,g4,FA,fc,g5,hfl,hfm,hfs⟩:=y
    have hfl1:t.flds.length<=1000000:=by
     by_cases h4:t.kind=4
     ·have:=HGT.out.2.2.2.2.1 h4;omega
     ·rw [HGT.out.2.2.2.2.2 h4];simp
    have HSF:Hid (Slc 1 RInt wr FA fc t.flds):=aF ⟨hfs,hfl,hfm⟩;clear hfs;obtain ⟨T1,hT1⟩:∃T1,typeP b.regions t=T1:=⟨_,rfl⟩;obtain ⟨ix,hix⟩:∃ix,idxP 35 (k:Int)=ix:=⟨_,rfl⟩;have HTX:Hid (printP b=(bs ++ (ind 1 ++ ([116,121,112,101,32] ++ ix ++ [32,61,32] ++ T1 ++ [59,10]))) ++ rR3 b (k+1)):=aF (by rw [HTN.out,nL,hT1,hix,show ind 1=[32,32] from rfl,semP];simp);have hzl:=eG HTX.out HZ2.out;simp only [bB,bK,bP] at hzl;have hz2:¬(9223372036854775807<T1.length+1):=(by omega);have hz3:bs.length+ix.length+T1.length+300<=140737488355328:=by omega
    have HIX:Hid (∀W,Below w.heap.size w W->Calls Tryz.prog 34 #[.string ⟨#[35]⟩,.int .i64 k] W fun e' w'=>e' = .returned (tx ix)/\Below W.heap.size W w'):=aF (fun W hb=>by
     rw [<- hix]
     exact index_any' [35] (k:Int) (by omega) (by omega) (by simp) W (HPOW.out.keep hb))
    have HTY:Hid (∀W,Below wr.heap.size wr W->Calls Tryz.prog 35 #[.pointer (some ⟨g,0,none⟩),.agg #[.int .i64 t.kind,.bool t.mu,.int .i64 t.reg,.int .i64 t.elem,.slice FA t.flds.length fc]] W fun e' w'=>e' = .returned (tx T1)/\Below W.heap.size W w'):=aF (fun W hb=>by
     rw [<- hT1]
     exact rF (HP.out.keep hb).L.ctx t FA fc (HSF.out.keep RInt.keeps hb) HOT.out HFT.out (by rw [hT1];show T1.length<=_;omega) hfl1)
    clear hzl hT1 hix HTN HOT HFT HGT HSF;obtain ⟨tk,tm,tr,te,tf⟩:=t;simp only at g1 g2 g3 g4 g5 HTY hfl hfl1;have hcc:=bJ (cO (l:=(bdM b A1 c1 A2 c2 (some ⟨bb,oo,none⟩) c3 A4 c4 A5 c5 [])) HP.out.bd) (cO HP.out.pc 0 _ rfl);obtain ⟨-,y1,y2,y3,y4,y5,y6⟩:=aS hcc.1;have yp:=hcc.2;clear hcc;have hbw0:=aF ((aX wr.heap.size wr).alloc (aY _) (.cells #[Value.int .i64 tk,.bool tm,.int .i64 tr,.int .i64 te,.slice FA tf.length fc] 81));have hn0:w.heap.size<wr.heap.size:=cD wr _ y1;have hg0:g+1<wr.heap.size:=cD wr _ yp;have hbox:g≠wr.heap.size:=(by omega);have hk1:(k:Int)+1<=9223372036854775807:=(by omega);have hbs:=cY hbb;go_wp2_with fail
    have HPD:=aF (HP.out.keep (hbw0.out.drew));refine cQ (S:=fun X=>X.heap[w.heap.size]?=some (.cells ((bdM b A1 c1 A2 c2 (some ⟨bb,oo,none⟩) c3 A4 c4 A5 c5 [])).toArray 28 (0,0))/\X.heap[g+1]?=some (.cells [Value.pointer (some ⟨g,0,none⟩)].toArray 66 (0,0))/\X.heap[wr.heap.size]?=some (.cells ([Value.int .i64 tk,.bool tm,.int .i64 tr,.int .i64 te,.slice FA tf.length fc]).toArray 81 (0,0))) [0,1,3,4,2,5,6,7,8] (by kernel_rfl) ?_;have hS:(wr.alloc (.cells #[Value.int .i64 tk,.bool tm,.int .i64 tr,.int .i64 te,.slice FA tf.length fc] 81)).drew.heap[w.heap.size]?=some (.cells ((bdM b A1 c1 A2 c2 (some ⟨bb,oo,none⟩) c3 A4 c4 A5 c5 [])).toArray 28 (0,0))/\(wr.alloc (.cells #[Value.int .i64 tk,.bool tm,.int .i64 tr,.int .i64 te,.slice FA tf.length fc] 81)).drew.heap[g+1]?=some (.cells [Value.pointer (some ⟨g,0,none⟩)].toArray 66 (0,0))/\(wr.alloc (.cells #[Value.int .i64 tk,.bool tm,.int .i64 tr,.int .i64 te,.slice FA tf.length fc] 81)).drew.heap[wr.heap.size]?=some (.cells ([Value.int .i64 tk,.bool tm,.int .i64 tr,.int .i64 te,.slice FA tf.length fc]).toArray 81 (0,0)):=⟨HPD.out.bd,HPD.out.pc,heap_alloc_new wr _⟩;(iterate 4 (refine cR (v:=?_) ?_ hS ?_;rotate_left;(next=>(rintro X ⟨hX,hQ,hE⟩;have q0:=cO hQ 0 _ rfl;have e0:=cO hE 0 _ rfl;have e1:=cO hE 1 _ rfl;have e2:=cO hE 2 _ rfl;have e3:=cO hE 3 _ rfl;have e4:=cO hE 4 _ rfl;(try simp only [aI]);go_simp;rfl));simp only [aM]));(refine cM (fun K1 hK1=>?_);simp only [aM];rw [bA (by rfl)];go_simp);refine (HIX.out _ HPD.out.L.low).mono ?_;rintro e' w3 ⟨rfl,hw3⟩;replace hS:=bJ (cL hS.1 hw3) (bJ (cL hS.2.1 hw3) (cL hS.2.2 hw3));have HP3:=aF (HPD.out.keep hw3);have HW3:=aF (hbw0.out.drew.trans (hw3.mono hbw0.out.drew.size));clear hw3;refine hK1.out _ _ (fun _=>hS) ?_;(refine cM (fun K1 hK1=>?_);simp only [aM];rw [bA (by rfl)];go_simp);refine (HTY.out _ HW3.out).mono ?_;rintro e' w4 ⟨rfl,hw4⟩;replace hS:=bJ (cL hS.1 hw4) (bJ (cL hS.2.1 hw4) (cL hS.2.2 hw4));have HP4:=aF (HP3.out.keep hw4);clear hw4;refine hK1.out _ _ (fun _=>hS) ?_;refine cU (v:=tx (T1 ++ [59])) (by kernel_rfl) (fun _ _ _ h=>h) (Or.inl ⟨by rfl,?_⟩) hS ?_
    ·rintro X hX;(try simp only [aI]);go_simp;exact (ba_app' _ _).trans (by simp [bl])
    (simp only [aM]);(refine cM (fun K1 hK1=>?_);simp only [aM];rw [bA (by rfl)];go_simp);have hbw:=(aX w4.heap.size w4).alloc (aY _) (.cells #[tx [116,121,112,101],tx ix,tx [61],tx (T1 ++ [59])] 9);replace hS:=bJ (cL hS.1 hbw) (bJ (cL hS.2.1 hbw) (cL hS.2.2 hbw));have HPR:=aF (HP4.out.keep hbw);clear hbw;refine hK1.out _ _ (fun _=>hS) ?_;(refine cM (fun K1 hK1=>?_);simp only [aM];rw [bA (by rfl)];go_simp);refine (dN HPR.out.L [[116,121,112,101],ix,[61],T1 ++ [59]] ([116,121,112,101,32] ++ ix ++ [32,61,32] ++ T1) _ (dJ w4 [[116,121,112,101],ix,[61],T1 ++ [59]]) (by rw [join4];simp) (by decide) (by simp) (by simp only [bB,bK,bP];omega)).mono ?_;rintro e' w9 ⟨rfl,hl4,hf4⟩;have HPL:=aF (HPR.out.fr hl4 hf4);replace hS:=bJ HPL.out.bd (bJ HPL.out.pc (heap_fr hS.2.2 hf4 hbox (by decide)));clear hl4;refine hK1.out _ _ (fun _=>hS) ?_;refine cV ?_;go_wp2_with fail
    go_roundw
    case rel=>exact ⟨k+1,_,by go_num,by omega,trivial,trivial,HTX,HPL⟩
    case measure=>simp [intOf];omega
 case rest=>
 obtain ⟨bs3,hT1,hP1⟩:=hcut;clear HT HP y1 y2 y3 y4 y5 y6 yp;have HT:=aF hT1;have HP:=aF hP1;clear hT1 hP1;have hcc:=bJ (cO (l:=(bdM b A1 c1 A2 c2 A3 c3 A4 c4 A5 c5 [])) HP.out.bd) (cO HP.out.pc 0 _ rfl);obtain ⟨-,y1,y2,y3,y4,y5,y6⟩:=aS hcc.1;have yp:=hcc.2;clear hcc;go_upto_block 2 with fail
 go_cut [] (fun wx=>∃bs,printP b=bs ++ rR5 b 0/\PW w w.heap.size g b ⟨A1,c1,A2,c2,A3,c3,A4,c4,A5,c5⟩ bs 1 wx)
 case first=>
  go_wp2_with fail
  go_loopw [7,8,9,70] (fun a q wo i wr=>∃(k:Nat) (bs:List UInt8),i = .int .i64 k/\k<=b.locals.length/\a=a/\q=q/\wo=wo/\Hid (printP b=bs ++ rR4 b k)/\Hid (PW w w.heap.size g b ⟨A1,c1,A2,c2,A3,c3,A4,c4,A5,c5⟩ bs 1 wr)) (fun _ _ _ i _=>b.locals.length - (intOf i).toNat)
  case atStart=>exact ⟨0,bs3,rfl,Nat.zero_le _,rfl,rfl,rfl,HT,HP⟩
  case round=>
   clear HT HP y1 y2 y3 y4 y5 y6 yp;obtain ⟨k,bs,rfl,hk,_,_,_,HT,HP⟩:=hrel;by_cases hlt:k<b.locals.length
   case neg=>
    have HE:=aF (xP (b:=b) (i:=k) (by omega));go_wp2_with fail
    go_meet;exact ⟨bs,by rw [HT.out,HE.out],HP.out⟩
   case pos=>
    obtain ⟨bb,oo,rfl,hbb,y⟩:=(HH.out.loc.keep RLc.keeps HP.out.L.low).sl.at_ hlt;have HTN:=aF (HT.out.trans (by rw [uX hlt]));have HFT:=aF (HF.out.lc _ (bN hlt));obtain ⟨t,ht⟩:∃t,b.locals[k]=t:=⟨_,rfl⟩;rw [ht] at HTN HFT y;clear ht HT;obtain ⟨ln,lt⟩:=t;obtain ⟨g1,g2⟩:=y;simp only at g1 g2 HFT;obtain ⟨nm,hnm⟩:∃nm:List UInt8,bl ln=nm:=⟨_,rfl⟩;have hln:ln=⟨nm.toArray⟩:=(by rw [<- hnm]);obtain ⟨ix,hix⟩:∃ix,idxP 35 lt=ix:=⟨_,rfl⟩;obtain ⟨wd,hwd⟩:∃wd,wordP (decide ((k:Int)<b.args))=wd:=⟨_,rfl⟩;have hwl:wd.length=3:=by rw [<- hwd];cases decide ((k:Int)<b.args) <;> rfl
    have HTX:Hid (printP b=(bs ++ (ind 1 ++ (wd ++ [32,37] ++ nm ++ [58,32] ++ ix ++ [59,10]))) ++ rR4 b (k+1)):=aF (by rw [HTN.out,oI];simp only;rw [hnm,hix,hwd,show ind 1=[32,32] from rfl,semP];simp);have hzl:=eG HTX.out HZ2.out;simp only [bB,bK,bP] at hzl;have hz2:¬(9223372036854775807<1+nm.length):=(by omega);have hz3:¬(9223372036854775807<nm.length+1+1):=(by omega);have hz4:¬(9223372036854775807<ix.length+1):=(by omega);have hz5:bs.length+ix.length+nm.length+300<=140737488355328:=by omega
    have HIX:Hid (∀W,Below w.heap.size w W->Calls Tryz.prog 34 #[.string ⟨#[35]⟩,.int .i64 lt] W fun e' w'=>e' = .returned (tx ix)/\Below W.heap.size W w'):=aF (fun W hb=>by
     rw [<- hix]
     exact index_any' [35] lt HFT.out.1 HFT.out.2 (by simp) W (HPOW.out.keep hb))
    have HWD:Hid (((k:Int)<b.args/\wd=[97,114,103])\/(¬(k:Int)<b.args/\wd=[108,101,116])):=aF (by
     rw [<- hwd];by_cases h:(k:Int)<b.args
     ·exact .inl ⟨h,by rw [decide_eq_true h];rfl⟩
     ·exact .inr ⟨h,by rw [decide_eq_false h];rfl⟩)
    subst hln;clear hzl hix HTN HFT hnm hwd;have hcc:=bJ (cO (l:=(bdM b A1 c1 A2 c2 A3 c3 (some ⟨bb,oo,none⟩) c4 A5 c5 [])) HP.out.bd) (cO HP.out.pc 0 _ rfl);obtain ⟨-,y1,y2,y3,y4,y5,y6⟩:=aS hcc.1;have yp:=hcc.2;clear hcc;have hbw0:=aF ((aX wr.heap.size wr).alloc (aY _) (.cells #[Value.string ⟨nm.toArray⟩,.int .i64 lt] 48));have hn0:w.heap.size<wr.heap.size:=cD wr _ y1;have hg0:g+1<wr.heap.size:=cD wr _ yp;have hbox:g≠wr.heap.size:=(by omega);have hk1:(k:Int)+1<=9223372036854775807:=(by omega);have hbs:=cY hbb;rcases HWD.out with ⟨hka,hwv⟩ | ⟨hka,hwv⟩
    all_goals
     have HWV:=aF hwv;clear hwv;go_wp2_with fail
     have HPD:=aF (HP.out.keep (hbw0.out.drew));refine cQ (S:=fun X=>X.heap[w.heap.size]?=some (.cells ((bdM b A1 c1 A2 c2 A3 c3 (some ⟨bb,oo,none⟩) c4 A5 c5 [])).toArray 28 (0,0))/\X.heap[g+1]?=some (.cells [Value.pointer (some ⟨g,0,none⟩)].toArray 66 (0,0))/\X.heap[wr.heap.size]?=some (.cells ([Value.string ⟨nm.toArray⟩,.int .i64 lt]).toArray 48 (0,0))) [0,1,2,3,4,5,6,7,8,9,10,11] (by kernel_rfl) ?_;have hS:(wr.alloc (.cells #[Value.string ⟨nm.toArray⟩,.int .i64 lt] 48)).drew.heap[w.heap.size]?=some (.cells ((bdM b A1 c1 A2 c2 A3 c3 (some ⟨bb,oo,none⟩) c4 A5 c5 [])).toArray 28 (0,0))/\(wr.alloc (.cells #[Value.string ⟨nm.toArray⟩,.int .i64 lt] 48)).drew.heap[g+1]?=some (.cells [Value.pointer (some ⟨g,0,none⟩)].toArray 66 (0,0))/\(wr.alloc (.cells #[Value.string ⟨nm.toArray⟩,.int .i64 lt] 48)).drew.heap[wr.heap.size]?=some (.cells ([Value.string ⟨nm.toArray⟩,.int .i64 lt]).toArray 48 (0,0)):=⟨HPD.out.bd,HPD.out.pc,heap_alloc_new wr _⟩;(iterate 4 (refine cR (v:=?_) ?_ hS ?_;rotate_left;(next=>(rintro X ⟨hX,hQ,hE⟩;have q0:=cO hQ 0 _ rfl;have e0:=cO hE 0 _ rfl;have e1:=cO hE 1 _ rfl;(try simp only [aI]);go_simp;rfl));simp only [aM]));refine cU (v:=tx (37 :: nm)) (by kernel_rfl) (fun _ _ _ h=>h) (Or.inl ⟨by rfl,?_⟩) hS ?_
     ·rintro X hX;(try simp only [aI]);go_simp;exact (ba_app' _ _).trans (by simp [bl])
     (simp only [aM]);refine cU (v:=tx (37 :: (nm ++ [58]))) (by kernel_rfl) (fun _ _ _ h=>h) (Or.inl ⟨by rfl,?_⟩) hS ?_
     ·rintro X hX;(try simp only [aI]);go_simp;exact (ba_app' _ _).trans (by simp [bl])
     (simp only [aM]);(iterate 2 (refine cR (v:=?_) ?_ hS ?_;rotate_left;(next=>(rintro X ⟨hX,hQ,hE⟩;have q0:=cO hQ 0 _ rfl;have e0:=cO hE 0 _ rfl;have e1:=cO hE 1 _ rfl;(try simp only [aI]);go_simp;rfl));simp only [aM]));(refine cM (fun K1 hK1=>?_);simp only [aM];rw [bA (by rfl)];go_simp);refine (HIX.out _ HPD.out.L.low).mono ?_;rintro e' w3 ⟨rfl,hw3⟩;replace hS:=bJ (cL hS.1 hw3) (bJ (cL hS.2.1 hw3) (cL hS.2.2 hw3));have HP3:=aF (HPD.out.keep hw3);clear hw3;refine hK1.out _ _ (fun _=>hS) ?_;refine cU (v:=tx (ix ++ [59])) (by kernel_rfl) (fun _ _ _ h=>h) (Or.inl ⟨by rfl,?_⟩) hS ?_
     ·rintro X hX;(try simp only [aI]);go_simp;exact (ba_app' _ _).trans (by simp [bl])
     (simp only [aM])
    ·(refine cM (fun K1 hK1=>?_);simp only [aM];rw [bA (by rfl)];go_simp);have hbw:=(aX w3.heap.size w3).alloc (aY _) (.cells #[tx [97,114,103],tx (37 :: (nm ++ [58])),tx (ix ++ [59])] 9);replace hS:=bJ (cL hS.1 hbw) (bJ (cL hS.2.1 hbw) (cL hS.2.2 hbw));have HPR:=aF (HP3.out.keep hbw);clear hbw;refine hK1.out _ _ (fun _=>hS) ?_;(refine cM (fun K1 hK1=>?_);simp only [aM];rw [bA (by rfl)];go_simp);refine (dN HPR.out.L [[97,114,103],37 :: (nm ++ [58]),ix ++ [59]] ([97,114,103] ++ [32,37] ++ nm ++ [58,32] ++ ix) _ (dJ w3 [[97,114,103],37 :: (nm ++ [58]),ix ++ [59]]) (by rw [join3];simp) (by decide) (by simp) (by simp only [bB,bK,bP];omega)).mono ?_;rintro e' w9 ⟨rfl,hl4,hf4⟩;have HPL:=aF (HPR.out.fr hl4 hf4);replace hS:=bJ HPL.out.bd (bJ HPL.out.pc (heap_fr hS.2.2 hf4 hbox (by decide)));clear hl4;refine hK1.out _ _ (fun _=>hS) ?_;refine cV ?_;go_wp2_with fail
     go_roundw
     case rel=>exact ⟨k+1,_,by go_num,by omega,trivial,trivial,trivial,HTX,by rw [HWV.out];exact HPL⟩
     case measure=>simp [intOf];omega
    ·(refine cM (fun K1 hK1=>?_);simp only [aM];rw [bA (by rfl)];go_simp);have hbw:=(aX w3.heap.size w3).alloc (aY _) (.cells #[tx [108,101,116],tx (37 :: (nm ++ [58])),tx (ix ++ [59])] 9);replace hS:=bJ (cL hS.1 hbw) (bJ (cL hS.2.1 hbw) (cL hS.2.2 hbw));have HPR:=aF (HP3.out.keep hbw);clear hbw;refine hK1.out _ _ (fun _=>hS) ?_;(refine cM (fun K1 hK1=>?_);simp only [aM];rw [bA (by rfl)];go_simp);refine (dN HPR.out.L [[108,101,116],37 :: (nm ++ [58]),ix ++ [59]] ([108,101,116] ++ [32,37] ++ nm ++ [58,32] ++ ix) _ (dJ w3 [[108,101,116],37 :: (nm ++ [58]),ix ++ [59]]) (by rw [join3];simp) (by decide) (by simp) (by simp only [bB,bK,bP];omega)).mono ?_;rintro e' w9 ⟨rfl,hl4,hf4⟩;have HPL:=aF (HPR.out.fr hl4 hf4);replace hS:=bJ HPL.out.bd (bJ HPL.out.pc (heap_fr hS.2.2 hf4 hbox (by decide)));clear hl4;refine hK1.out _ _ (fun _=>hS) ?_;refine cV ?_;go_wp2_with fail
     go_roundw
     case rel=>exact ⟨k+1,_,by go_num,by omega,trivial,trivial,trivial,HTX,by rw [HWV.out];exact HPL⟩
     case measure=>simp [intOf];omega
 case rest=>
 obtain ⟨bs4,hT1,hP1⟩:=hcut;clear HT HP y1 y2 y3 y4 y5 y6 yp;have HT:=aF hT1;have HP:=aF hP1;clear hT1 hP1;have hcc:=bJ (cO (l:=(bdM b A1 c1 A2 c2 A3 c3 A4 c4 A5 c5 [])) HP.out.bd) (cO HP.out.pc 0 _ rfl);obtain ⟨-,y1,y2,y3,y4,y5,y6⟩:=aS hcc.1;have yp:=hcc.2;clear hcc;go_upto_block 4 with fail
 go_cut [] (fun wx=>∃bs,printP b=bs ++ rR6/\PW w w.heap.size g b ⟨A1,c1,A2,c2,A3,c3,A4,c4,A5,c5⟩ bs 1 wx)
 case first=>
  go_wp2_with fail
  go_loopw [10,11,13,95] (fun a q st i wr=>∃(k:Nat) (bs:List UInt8),i = .int .i64 k/\k<=b.blocks.length/\a=a/\q=q/\st=st/\Hid (printP b=bs ++ rR5 b k)/\Hid (PW w w.heap.size g b ⟨A1,c1,A2,c2,A3,c3,A4,c4,A5,c5⟩ bs 1 wr)) (fun _ _ _ i _=>b.blocks.length - (intOf i).toNat)
  case atStart=>exact ⟨0,bs4,rfl,Nat.zero_le _,rfl,rfl,rfl,HT,HP⟩
  case round=>
   clear HT HP y1 y2 y3 y4 y5 y6 yp;obtain ⟨k,bs,rfl,hk,_,_,_,HT,HP⟩:=hrel;by_cases hlt:k<b.blocks.length
   case neg=>
    have HE:=aF (xO (b:=b) (i:=k) (by omega));go_wp2_with fail
    go_meet;exact ⟨bs,by rw [HT.out,HE.out],HP.out⟩
   case pos=>
    obtain ⟨bb,oo,rfl,hbb,y⟩:=HH.out.blk.sl.at_ hlt;have HTN:=aF (HT.out.trans (by rw [uW hlt]));have HOB:=aF (HOK.out.bk _ (bN hlt));have HFS:=aF (HF.out.st _ (bN hlt));have HFM:=aF (HF.out.tm _ (bN hlt));have HBK:=aF (ybk (ybks (ychk HCK.out).2 _ (bN hlt)));obtain ⟨t,ht⟩:∃t,b.blocks[k]=t:=⟨_,rfl⟩;rw [ht] at HTN HOB HFS HFM HBK y;clear ht HT;obtain ⟨S1,sc1,S2,sc2,S3,sc3,S4,sc4,h0,h1,h2,h3,h4,h5,h6,q1,q2,q3,q4⟩:=nI y;have hlow:=HP.out.L.low;have g0:=(hlow.cell (p:=⟨bb,oo+k * 7,none⟩) hbb).trans h0;have g1:=(hlow.cell (p:=⟨bb,oo+k * 7+1,none⟩) hbb).trans h1;have g2:=(hlow.cell (p:=⟨bb,oo+k * 7+2,none⟩) hbb).trans h2;have g3:=(hlow.cell (p:=⟨bb,oo+k * 7+3,none⟩) hbb).trans h3;have g4:=(hlow.cell (p:=⟨bb,oo+k * 7+4,none⟩) hbb).trans h4;have g5:=(hlow.cell (p:=⟨bb,oo+k * 7+5,none⟩) hbb).trans h5;have g6:=(hlow.cell (p:=⟨bb,oo+k * 7+6,none⟩) hbb).trans h6;replace hbb:=bO hbb hlow.size;clear h0 h1 h2 h3 h4 h5 h6 hlow;have HQ1:=aF q1;have HQ2:=aF q2;have HQ3:=aF q3;have HQ4:=aF q4;have hsl:=q1.le;have hsb:=q1.big;clear y q1 q2 q3 q4;obtain ⟨ss,tk,tg,ar,⟨tl,tp⟩,tn⟩:=t;simp only at g0 g1 g2 g3 g4 g5 g6 HQ1 HQ2 HQ3 HQ4 HFS HFM HBK hsl;have HSE:=aF (fun s hs=>nB HDK.out.okay (ysts HBK.out.1 s hs));have HTE:=aF (nA HBK.out.2);have HAL:=aF (qD HBK.out.2);have HSA:=aF (fun s (hs:s∈ss)=>kL HDK.out.okay (pV HDK.out) (ysts HBK.out.1 s hs));obtain ⟨ix,hix⟩:∃ix,idxP 94 (k:Int)=ix:=⟨_,rfl⟩
    have HTX:Hid (printP b=(bs ++ (ind 1 ++ (ix ++ [58,32] ++ [123,10]))) ++ (ss.flatMap (eB b.locals b.regions) ++ (([32,32,32,32] ++ termP b.locals ⟨tk,tg,ar,⟨tl,tp⟩,tn⟩ ++ semP) ++ ([32,32,125,10] ++ rR5 b (k+1))))):=aF (by
     rw [HTN.out,lZ,hix,show ind 1=[32,32] from rfl];simp)
    have hzl:=eG HTX.out HZ2.out;simp only [bB,bK,bP] at hzl;have hz2:¬(9223372036854775807<ix.length+1):=(by omega);have hz3:bs.length+ix.length+300<=140737488355328:=by omega
    have HIX:Hid (∀W,Below w.heap.size w W->Calls Tryz.prog 34 #[.string ⟨#[94]⟩,.int .i64 k] W fun e' w'=>e' = .returned (tx ix)/\Below W.heap.size W w'):=aF (fun W hb=>by
     rw [<- hix]
     exact index_any' [94] (k:Int) (by omega) (by omega) (by simp) W (HPOW.out.keep hb))
    clear hzl hix HTN HBK HOB;have hcc:=bJ (cO (l:=(bdM b A1 c1 A2 c2 A3 c3 A4 c4 (some ⟨bb,oo,none⟩) c5 [])) HP.out.bd) (cO HP.out.pc 0 _ rfl);obtain ⟨-,y1,y2,y3,y4,y5,y6⟩:=aS hcc.1;have yp:=hcc.2;clear hcc;have hbw0:=aF ((aX wr.heap.size wr).alloc (aY _) (.cells #[Value.slice S1 ss.length sc1,.int .i64 tk,.slice S2 tg.length sc2,.slice S3 ar.length sc3,.int .i64 tl,.slice S4 tp.length sc4,.string tn] 64));have hn0:w.heap.size<wr.heap.size:=cD wr _ y1;have hg0:g+1<wr.heap.size:=cD wr _ yp;have hbox:g≠wr.heap.size:=(by omega);have hk1:(k:Int)+1<=9223372036854775807:=(by omega);have hbs:=cY hbb;go_upto_region 25 with fail
    have HPD:=aF (HP.out.keep (hbw0.out.drew));go_cut [] (fun wx=>∃bs,printP b=bs ++ (ss.flatMap (eB b.locals b.regions) ++ (([32,32,32,32] ++ termP b.locals ⟨tk,tg,ar,⟨tl,tp⟩,tn⟩ ++ semP) ++ ([32,32,125,10] ++ rR5 b (k+1))))/\PW w w.heap.size g b ⟨A1,c1,A2,c2,A3,c3,A4,c4,(some ⟨bb,oo,none⟩),c5⟩ bs 2 wx/\wx.heap[wr.heap.size]?=some (.cells ([Value.slice S1 ss.length sc1,.int .i64 tk,.slice S2 tg.length sc2,.slice S3 ar.length sc3,.int .i64 tl,.slice S4 tp.length sc4,.string tn]).toArray 64 (0,0))/\Below w.heap.size w wx/\Fr g wr wx)
    case first=>
     refine cQ (S:=fun X=>X.heap[w.heap.size]?=some (.cells ((bdM b A1 c1 A2 c2 A3 c3 A4 c4 (some ⟨bb,oo,none⟩) c5 [])).toArray 28 (0,0))/\X.heap[g+1]?=some (.cells [Value.pointer (some ⟨g,0,none⟩)].toArray 66 (0,0))/\X.heap[wr.heap.size]?=some (.cells ([Value.slice S1 ss.length sc1,.int .i64 tk,.slice S2 tg.length sc2,.slice S3 ar.length sc3,.int .i64 tl,.slice S4 tp.length sc4,.string tn]).toArray 64 (0,0))) [0,1,2,3,4,5] (by kernel_rfl) ?_;have hS:(wr.alloc (.cells #[Value.slice S1 ss.length sc1,.int .i64 tk,.slice S2 tg.length sc2,.slice S3 ar.length sc3,.int .i64 tl,.slice S4 tp.length sc4,.string tn] 64)).drew.heap[w.heap.size]?=some (.cells ((bdM b A1 c1 A2 c2 A3 c3 A4 c4 (some ⟨bb,oo,none⟩) c5 [])).toArray 28 (0,0))/\(wr.alloc (.cells #[Value.slice S1 ss.length sc1,.int .i64 tk,.slice S2 tg.length sc2,.slice S3 ar.length sc3,.int .i64 tl,.slice S4 tp.length sc4,.string tn] 64)).drew.heap[g+1]?=some (.cells [Value.pointer (some ⟨g,0,none⟩)].toArray 66 (0,0))/\(wr.alloc (.cells #[Value.slice S1 ss.length sc1,.int .i64 tk,.slice S2 tg.length sc2,.slice S3 ar.length sc3,.int .i64 tl,.slice S4 tp.length sc4,.string tn] 64)).drew.heap[wr.heap.size]?=some (.cells ([Value.slice S1 ss.length sc1,.int .i64 tk,.slice S2 tg.length sc2,.slice S3 ar.length sc3,.int .i64 tl,.slice S4 tp.length sc4,.string tn]).toArray 64 (0,0)):=⟨HPD.out.bd,HPD.out.pc,heap_alloc_new wr _⟩;(iterate 2 (refine cR (v:=?_) ?_ hS ?_;rotate_left;(next=>(rintro X ⟨hX,hQ,hE⟩;have q0:=cO hQ 0 _ rfl;(try simp only [aI]);go_simp;rfl));simp only [aM]));(refine cM (fun K1 hK1=>?_);simp only [aM];rw [bA (by rfl)];go_simp);refine (HIX.out _ HPD.out.L.low).mono ?_;rintro e' w3 ⟨rfl,hw3⟩;replace hS:=bJ (cL hS.1 hw3) (bJ (cL hS.2.1 hw3) (cL hS.2.2 hw3));have HP3:=aF (HPD.out.keep hw3);have HF3:=aF ((Fr.of_below (g:=g) (hbw0.out.drew)).trans (Fr.of_below hw3));clear hw3;refine hK1.out _ _ (fun _=>hS) ?_;refine cU (v:=tx (ix ++ [58])) (by kernel_rfl) (fun _ _ _ h=>h) (Or.inl ⟨by rfl,?_⟩) hS ?_
     ·rintro X hX;(try simp only [aI]);go_simp;exact (ba_app' _ _).trans (by simp [bl])
     (simp only [aM]);(refine cM (fun K1 hK1=>?_);simp only [aM];rw [bA (by rfl)];go_simp);have hbw:=(aX w3.heap.size w3).alloc (aY _) (.cells #[tx (ix ++ [58]),tx [123]] 9);replace hS:=bJ (cL hS.1 hbw) (bJ (cL hS.2.1 hbw) (cL hS.2.2 hbw));have HPR:=aF (HP3.out.keep hbw);clear hbw;refine hK1.out _ _ (fun _=>hS) ?_;have HF4:=aF (HF3.out.trans (Fr.of_below (g:=g) ((aX w3.heap.size w3).alloc (aY _) (.cells #[tx (ix ++ [58]),tx [123]] 9))));(refine cM (fun K1 hK1=>?_);simp only [aM];rw [bA (by rfl)];go_simp);refine (jR HPR.out.L [ix ++ [58],[123]] (ix ++ [58,32]) _ (dJ w3 [ix ++ [58],[123]]) (by rw [join2];simp) (by decide) (by simp) (by simp only [bB,bK,bP];omega)).mono ?_;rintro e' w9 ⟨rfl,hl4,hf4⟩;have HPL:=aF (HPR.out.fr hl4 hf4);replace hS:=bJ HPL.out.bd (bJ HPL.out.pc (heap_fr hS.2.2 hf4 hbox (by decide)));have HF5:=aF (HF4.out.trans hf4);clear hl4;refine hK1.out _ _ (fun _=>hS) ?_;refine cV ?_;go_wp2_with fail
     go_meet;exact ⟨_,HTX.out,HPL.out,hS.2.2,HPL.out.L.low,HF5.out⟩
    case rest=>
    obtain ⟨bs5,hT1,hP1,hE1,hB1,hF1⟩:=hcut;have HT:=aF hT1;have HP5:=aF hP1;have HE1:=aF hE1;have ec:=cO hE1;obtain ⟨e0,e1,e2,e3,e4,e5,e6⟩:=aS ec;have HB5:=aF hB1;have HF5:=aF hF1;have yp:=cO HP5.out.pc 0 _ rfl;have hgw:g+1<wc.heap.size:=cD wc _ yp;clear hT1 hP1 hE1 hB1 hF1 ec HTX HPD HIX HP hbw0 y1 y2 y3 y4 y5 y6 g0 g1 g2 g3 g4 g5 g6;go_upto_block 6 with fail
    go_cut [] (fun wx=>∃bs,printP b=bs ++ (([32,32,32,32] ++ termP b.locals ⟨tk,tg,ar,⟨tl,tp⟩,tn⟩ ++ semP) ++ ([32,32,125,10] ++ rR5 b (k+1)))/\PW w w.heap.size g b ⟨A1,c1,A2,c2,A3,c3,A4,c4,(some ⟨bb,oo,none⟩),c5⟩ bs 2 wx/\wx.heap[wr.heap.size]?=some (.cells ([Value.slice S1 ss.length sc1,.int .i64 tk,.slice S2 tg.length sc2,.slice S3 ar.length sc3,.int .i64 tl,.slice S4 tp.length sc4,.string tn]).toArray 64 (0,0))/\Fr g wr wx)
    case first=>
     have hww:wr.heap.size<=wc.heap.size:=HF5.out.size;go_wp2_with fail
     go_loopw [13,109] (fun q i wv=>∃(j:Nat) (bs:List UInt8),i = .int .i64 j/\j<=ss.length/\q=q/\Hid (printP b=bs ++ ((ss.drop j).flatMap (eB b.locals b.regions) ++ (([32,32,32,32] ++ termP b.locals ⟨tk,tg,ar,⟨tl,tp⟩,tn⟩ ++ semP) ++ ([32,32,125,10] ++ rR5 b (k+1)))))/\Hid (PW w w.heap.size g b ⟨A1,c1,A2,c2,A3,c3,A4,c4,(some ⟨bb,oo,none⟩),c5⟩ bs 2 wv)/\Hid (wv.heap[wr.heap.size]?=some (.cells ([Value.slice S1 ss.length sc1,.int .i64 tk,.slice S2 tg.length sc2,.slice S3 ar.length sc3,.int .i64 tl,.slice S4 tp.length sc4,.string tn]).toArray 64 (0,0)))/\Hid (Fr g wr wv)) (fun _ i _=>ss.length - (intOf i).toNat)
     case atStart=>exact ⟨0,bs5,rfl,Nat.zero_le _,rfl,aF (by rw [bX];exact HT.out),HP5,HE1,HF5⟩
     case round=>
      clear HT HP5 HE1 HF5 HB5 e0 e1 e2 e3 e4 e5 e6 yp hgw;obtain ⟨j,bs,rfl,hj,_,HT,HP,HE,HFR⟩:=hrel;by_cases hjl:j<ss.length
      case neg=>
       have HD:Hid (ss.drop j=[]):=aF (bE (by omega));go_wp2_with fail
       go_meet;exact ⟨bs,by rw [HT.out,HD.out];rfl,HP.out,HE.out,HFR.out⟩
      case pos=>
       obtain ⟨b2,o2,rfl,hb2,y⟩:=(HQ1.out.keep RSt.keeps HP.out.L.low).sl.at_ hjl;have HOS:=aF (HSE.out ss[j] (bN hjl));have HFT:=aF (HFS.out ss[j] (bN hjl));have HLN:=aF (HSA.out ss[j] (bN hjl));have HTN:Hid (printP b=(bs ++ eB b.locals b.regions ss[j]) ++ ((ss.drop (j+1)).flatMap (eB b.locals b.regions) ++ (([32,32,32,32] ++ termP b.locals ⟨tk,tg,ar,⟨tl,tp⟩,tn⟩ ++ semP) ++ ([32,32,125,10] ++ rR5 b (k+1))))):=aF (by rw [HT.out,cS hjl,List.flatMap_cons];simp);obtain ⟨s,hs⟩:∃s,ss[j]=s:=⟨_,rfl⟩;rw [hs] at HOS HFT HLN HTN y;clear hs HT;have hzl:=eG HTN.out HZ2.out;obtain ⟨X1,xc1,X2,xc2,X3,xc3,f0,f1,f2,f3,f4,f5,f6,f7,f8,f9,f10,p1,p2,p3⟩:=qY y;clear y;have hbw:=aF ((aX wr.heap.size wr).alloc (aY _) (.cells #[.int .i64 s.kind,.int .i64 s.place.loc,.slice X1 s.place.proj.length xc1,.int .i64 s.rv.kind,.int .i64 s.rv.op,.int .i64 s.rv.reg,.bool s.rv.mu,.int .i64 s.rv.place.loc,.slice X2 s.rv.place.proj.length xc2,.slice X3 s.rv.args.length xc3,.int .i64 s.loc] 87))
       have HSM:=aF (rI (HP.out.keep hbw.out).L s X1 X2 X3 xc1 xc2 xc3 (p1.keep RPj.keeps hbw.out) (p2.keep RPj.keeps hbw.out) (p3.keep ROp.keeps hbw.out) HOS.out HFT.out (by
        simp only [eB,semP,bB,bK,bP] at hzl;omega) HLN.out)
       have yp:=cO HP.out.pc 0 _ rfl;have hgv:g+1<wr.heap.size:=cD wr _ yp;have hj1:(j:Int)+1<=9223372036854775807:=(by omega);have hbs2:=cY hb2;have y0:=cO (l:=[Value.slice (some ⟨b2,o2,none⟩) ss.length sc1,.int .i64 tk,.slice S2 tg.length sc2,.slice S3 ar.length sc3,.int .i64 tl,.slice S4 tp.length sc4,.string tn]) HE.out 0 _ rfl;clear p1 p2 p3 hzl HOS HFT HLN;go_wp2_with (go_at_call 36;refine HSM.out.mono ?_;rintro e' w5 ⟨rfl,hl5,hf5⟩;have HP6:=aF ((HP.out.keep hbw.out).fr hl5 hf5);have HE6:=aF (heap_fr (cL HE.out hbw.out) hf5 hbox (by decide));have HF6:=aF (HFR.out.trans ((Fr.of_below hbw.out).trans hf5));clear hl5 hf5)
       go_roundw
       case rel=>exact ⟨j+1,_,by go_num,by omega,trivial,HTN,HP6,HE6,HF6⟩
       case measure=>simp [intOf];omega
    case rest=>
    obtain ⟨bs6,hT1,hP1,hE1,hF1⟩:=hcut;clear HT HP5 HE1 HF5 HB5 e0 e1 e2 e3 e4 e5 e6 yp hgw;have HT:=aF hT1;have HP:=aF hP1;have ec:=cO hE1;obtain ⟨-,e1,e2,e3,e4,e5,e6⟩:=aS ec;have yp:=cO HP.out.pc 0 _ rfl;clear hT1 hP1 hE1 hF1 ec;have hzl:=eG HT.out HZ2.out;simp only [semP,bB,bK,bP] at hzl;have HTM:=aF (rH HP.out.L ⟨tk,tg,ar,⟨tl,tp⟩,tn⟩ S2 S3 S4 sc2 sc3 sc4 (HQ2.out.keep RInt.keeps HP.out.L.low) (HQ3.out.keep ROp.keeps HP.out.L.low) (HQ4.out.keep RPj.keeps HP.out.L.low) HTE.out HFM.out (by omega) HAL.out);have HTY:Hid (printP b=(bs6 ++ ([32,32,32,32] ++ termP b.locals ⟨tk,tg,ar,⟨tl,tp⟩,tn⟩ ++ semP) ++ (ind 1 ++ [125,10])) ++ rR5 b (k+1)):=aF (by rw [HT.out,show ind 1=[32,32] from rfl];simp)
    have hz4:(bs6 ++ ([32,32,32,32] ++ termP b.locals ⟨tk,tg,ar,⟨tl,tp⟩,tn⟩ ++ semP)).length+100<=140737488355328:=by
     simp only [semP,bB,bK,bP];omega
    have HCL:=aF (fun (W:World) (P:PW w w.heap.size g b ⟨A1,c1,A2,c2,A3,c3,A4,c4,(some ⟨bb,oo,none⟩),c5⟩ (bs6 ++ ([32,32,32,32] ++ termP b.locals ⟨tk,tg,ar,⟨tl,tp⟩,tn⟩ ++ semP)) 2 W)=>iI (P.keep ((aX W.heap.size W).alloc (aY _) (.cells #[tx [125]] 9))).L _ (dJ W [[125]]) (by decide) hz4);clear hzl hz4
    go_wp2_with (first
     | (go_at_call 37;refine HTM.out.mono ?_;rintro e' w7 ⟨rfl,hl7,hf7⟩;have HP7:=aF (HP.out.fr hl7 hf7);have yp7:=cO HP7.out.pc 0 _ rfl;clear hl7 hf7)
     | (go_at_call 28;refine (HCL.out _ HP7.out).mono ?_;rintro e' w8 ⟨rfl,hl8,hf8⟩;have HP8:=aF ((HP7.out.keep ((aX w7.heap.size w7).alloc (aY _) (.cells #[tx [125]] 9))).fr hl8 hf8);clear hl8 hf8))
    go_roundw
    case rel=>exact ⟨k+1,_,by go_num,by omega,trivial,trivial,trivial,HTY,HP8⟩
    case measure=>simp [intOf];omega
 case rest=>
 obtain ⟨bs7,hT1,hP1⟩:=hcut;clear HT HP y1 y2 y3 y4 y5 y6 yp;have HT:=aF hT1;have HP:=aF hP1;clear hT1 hP1;have yp:=cO HP.out.pc 0 _ rfl;have hzl:=eG HT.out HZ2.out;have HCL:=aF (iI (HP.out.keep ((aX wc.heap.size wc).alloc (aY _) (.cells #[tx [125]] 9))).L _ (dJ wc [[125]]) (by decide) (by omega));have HSTR:=aF (fun (W:World) (P:PW w w.heap.size g b ⟨A1,c1,A2,c2,A3,c3,A4,c4,A5,c5⟩ (bs7 ++ (ind 0 ++ [125,10])) 0 W)=>nN (g+2) g b ⟨A1,c1,A2,c2,A3,c3,A4,c4,A5,c5⟩ (bs7 ++ (ind 0 ++ [125,10])) (0:Nat) W P.L.st (by simp));have HTZ:Hid (printP b=bs7 ++ (ind 0 ++ [125,10])):=aF HT.out;clear hzl
 go_wp2_with (first
  | (go_at_call 28;refine HCL.out.mono ?_;rintro e' w8 ⟨rfl,hl8,hf8⟩;have HP8:=aF ((HP.out.keep ((aX wc.heap.size wc).alloc (aY _) (.cells #[tx [125]] 9))).fr hl8 hf8);have yp8:=cO HP8.out.pc 0 _ rfl;clear hl8 hf8)
  | (go_at_call 38;refine (HSTR.out _ HP8.out).mono ?_;rintro e' w9 ⟨rfl,hb9⟩;have HB9:=aF (HP8.out.L.low.trans (hb9.below HP8.out.L.hg HP8.out.L.st.lt));clear hb9))
 refine bodyPost_ret (v:= .tuple #[tx (bs7 ++ (ind 0 ++ [125,10])),.int .i64 0]) (by simp [results,Tryz.results10,go_sem] <;> rfl) rfl ⟨by rw [HTZ.out],HB9.out⟩
end
end Go.Proofs.YtmknfbfppmkcfaaGreatDoor
