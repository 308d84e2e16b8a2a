/-
  Parts of the proof: ET ELT.
-/
import Derived.Test.YtbnljlpefpllcaaGreatDoorME0
import Derived.Test.YtbnljlpefpllcaaGreatDoorME16
namespace Go.Proofs.YtbnljlpefpllcaaGreatDoor
set_option maxRecDepth 100000
set_option maxHeartbeats 16000000
section
open Go Go.RowKit
theorem jJ {α : Type} (er:Int):∀xs:List α,xs.foldl (fun e _=>e) er=er
 | []=>rfl
 | _ :: r=>jJ er r
theorem xDJ (w0:World) (h g t:Nat) (er:Int) (l:List UInt8) (reg elem:Int) (flds:List Int) (Af:Option Addr) (cf:Nat) (X:World) (hf:Slc 1 RInt w0 Af cf flds) (hs:ES w0 h g t X er l) (hreg:0≤reg∧reg≤65535) (hel:0≤elem∧elem≤65535) (hl:(l ++ typeW ⟨3,false,reg,elem,flds⟩).length≤1000000000):
 Calls Tryz.prog 35 #[.pointer (some ⟨h,0,none⟩),.agg #[.int .i64 3,.bool false,.int .i64 reg,.int .i64 elem,.slice Af flds.length cf]] X fun e' w'=>e' = .returned (.tuple #[])∧ES w0 h g t w' er (l ++ typeW ⟨3,false,reg,elem,flds⟩)∧WrE g h X w':=by
 have htw:typeW ⟨3,false,reg,elem,flds⟩=3 :: (putI reg ++ putI elem):=by simp [typeW]
 rw [htw] at hl ⊢
 clear htw
 obtain ⟨W,hW⟩:∃W,X.alloc (.cells #[.int .i64 3,.bool false,.int .i64 reg,.int .i64 elem,.slice Af flds.length cf] 83)=W:=⟨_,rfl⟩
 have hb:Below X.heap.size X W:=by rw [← hW];exact (aV _ _).alloc (aW _) _
 have hk:W.heap[X.heap.size]?=some (.cells #[.int .i64 3,.bool false,.int .i64 reg,.int .i64 elem,.slice Af flds.length cf] 83 (0,0)):=by rw [← hW];exact heap_alloc_new X _
 have hsW:=hs.keep hb
 have hhl:h<X.heap.size:=(Array.getElem?_eq_some_iff.1 hs.at_).1
 have hgl:=hs.wr.lt
 obtain ⟨z0,z1,z2,z3,z4,_⟩:=blk5 hk
 obtain ⟨t0,t1,t2,_⟩:=trip hsW.at_
 have HK:=aF hk
 have HSW:=aF hsW
 have HB:=aF hb
 have HL:=aF hl
 have HF:=aF hf
 have hle:=hf.le
 have hbg:=hf.big
 clear hs hl hk hsW hb hf
 have hl1:l.length≤1000000000:=by have:=HL.out;rw [aZ] at this;omega
 have HBY:Hid (Calls Tryz.prog 82 #[.pointer (some ⟨g,0,none⟩),.int .u8 3] W fun e' w'=>e' = .returned (.tuple #[])∧WRd w' g (l ++ [3])∧Wr g W w'):=aF (mM g l 3 W HSW.out.wr hl1 (by omega))
 go_enter Tryz.func35,Tryz.ntmps35
 go_wp2_with fail
 go_at_call 82
 refine HBY.out.mono ?_
 rintro e' w1 ⟨rfl,hw1,hx1⟩
 have hs1:=HSW.out.wrs hx1 hw1
 have hk1:=hx1.block _ _ HK.out (by omega) (.inr rfl)
 obtain ⟨y0,y1,y2,y3,y4,_⟩:=blk5 hk1
 obtain ⟨u0,u1,u2,_⟩:=trip hs1.at_
 have HS1:=aF hs1
 have HX1:=aF (WrE.of_wr (h:=h) hx1)
 have HK1:=aF hk1
 clear hw1 hx1 hs1 hk1 HBY
 go_wp2_with fail
 go_at_call 38
 refine (dT w0 h g t er _ reg w1 HS1.out ⟨hreg.1,by omega⟩ (by have h:=HL.out;simp only [aZ,bJ,bO] at h ⊢;omega)).mono ?_
 rintro e' w2 ⟨rfl,hs2,hx2⟩
 have hk2:=hx2.block _ _ HK1.out (by omega) (by omega) (.inr rfl)
 obtain ⟨x0,x1,x2,x3,x4,_⟩:=blk5 hk2
 have HS2:=aF hs2
 have HX2:=aF hx2
 clear hs2 hx2 hk2
 go_wp2_with fail
 go_at_call 38
 refine (dT w0 h g t er _ elem w2 HS2.out ⟨hel.1,by omega⟩ (by have h:=HL.out;simp only [aZ,bJ,bO] at h ⊢;omega)).mono ?_
 rintro e' w3 ⟨rfl,hs3,hx3⟩
 have HS3:Hid (ES w0 h g t w3 er (l ++ 3 :: (putI reg ++ putI elem))):=aF (by simpa [bK] using hs3)
 have HX3:=aF hx3
 clear hs3 hx3
 go_wp2_with fail
 exact bodyPost_end (v:= .tuple #[]) (by simp [results,Tryz.results35,go_sem] <;> rfl) rfl ⟨rfl,HS3.out,(((WrE.of_below HB.out).trans HX1.out).trans HX2.out).trans HX3.out⟩
theorem xDH (w0:World) (h g t:Nat) (er:Int) (l:List UInt8) (reg elem:Int) (flds:List Int) (Af:Option Addr) (cf:Nat) (X:World) (hf:Slc 1 RInt w0 Af cf flds) (hs:ES w0 h g t X er l) (hreg:0≤reg∧reg≤65535) (hel:0≤elem∧elem≤65535) (hl:(l ++ typeW ⟨3,true,reg,elem,flds⟩).length≤1000000000):
 Calls Tryz.prog 35 #[.pointer (some ⟨h,0,none⟩),.agg #[.int .i64 3,.bool true,.int .i64 reg,.int .i64 elem,.slice Af flds.length cf]] X fun e' w'=>e' = .returned (.tuple #[])∧ES w0 h g t w' er (l ++ typeW ⟨3,true,reg,elem,flds⟩)∧WrE g h X w':=by
 have htw:typeW ⟨3,true,reg,elem,flds⟩=5 :: (putI reg ++ putI elem):=by simp [typeW]
 rw [htw] at hl ⊢
 clear htw
 obtain ⟨W,hW⟩:∃W,X.alloc (.cells #[.int .i64 3,.bool true,.int .i64 reg,.int .i64 elem,.slice Af flds.length cf] 83)=W:=⟨_,rfl⟩
 have hb:Below X.heap.size X W:=by rw [← hW];exact (aV _ _).alloc (aW _) _
 have hk:W.heap[X.heap.size]?=some (.cells #[.int .i64 3,.bool true,.int .i64 reg,.int .i64 elem,.slice Af flds.length cf] 83 (0,0)):=by rw [← hW];exact heap_alloc_new X _
 have hsW:=hs.keep hb
 have hhl:h<X.heap.size:=(Array.getElem?_eq_some_iff.1 hs.at_).1
 have hgl:=hs.wr.lt
 obtain ⟨z0,z1,z2,z3,z4,_⟩:=blk5 hk
 obtain ⟨t0,t1,t2,_⟩:=trip hsW.at_
 have HK:=aF hk
 have HSW:=aF hsW
 have HB:=aF hb
 have HL:=aF hl
 have HF:=aF hf
 have hle:=hf.le
 have hbg:=hf.big
 clear hs hl hk hsW hb hf
 have hl1:l.length≤1000000000:=by have:=HL.out;rw [aZ] at this;omega
 have HBY:Hid (Calls Tryz.prog 82 #[.pointer (some ⟨g,0,none⟩),.int .u8 5] W fun e' w'=>e' = .returned (.tuple #[])∧WRd w' g (l ++ [5])∧Wr g W w'):=aF (mM g l 5 W HSW.out.wr hl1 (by omega))
 go_enter Tryz.func35,Tryz.ntmps35
 go_wp2_with fail
 go_at_call 82
 refine HBY.out.mono ?_
 rintro e' w1 ⟨rfl,hw1,hx1⟩
 have hs1:=HSW.out.wrs hx1 hw1
 have hk1:=hx1.block _ _ HK.out (by omega) (.inr rfl)
 obtain ⟨y0,y1,y2,y3,y4,_⟩:=blk5 hk1
 obtain ⟨u0,u1,u2,_⟩:=trip hs1.at_
 have HS1:=aF hs1
 have HX1:=aF (WrE.of_wr (h:=h) hx1)
 have HK1:=aF hk1
 clear hw1 hx1 hs1 hk1 HBY
 go_wp2_with fail
 go_at_call 38
 refine (dT w0 h g t er _ reg w1 HS1.out ⟨hreg.1,by omega⟩ (by have h:=HL.out;simp only [aZ,bJ,bO] at h ⊢;omega)).mono ?_
 rintro e' w2 ⟨rfl,hs2,hx2⟩
 have hk2:=hx2.block _ _ HK1.out (by omega) (by omega) (.inr rfl)
 obtain ⟨x0,x1,x2,x3,x4,_⟩:=blk5 hk2
 have HS2:=aF hs2
 have HX2:=aF hx2
 clear hs2 hx2 hk2
 go_wp2_with fail
 go_at_call 38
 refine (dT w0 h g t er _ elem w2 HS2.out ⟨hel.1,by omega⟩ (by have h:=HL.out;simp only [aZ,bJ,bO] at h ⊢;omega)).mono ?_
 rintro e' w3 ⟨rfl,hs3,hx3⟩
 have HS3:Hid (ES w0 h g t w3 er (l ++ 5 :: (putI reg ++ putI elem))):=aF (by simpa [bK] using hs3)
 have HX3:=aF hx3
 clear hs3 hx3
 go_wp2_with fail
 exact bodyPost_end (v:= .tuple #[]) (by simp [results,Tryz.results35,go_sem] <;> rfl) rfl ⟨rfl,HS3.out,(((WrE.of_below HB.out).trans HX1.out).trans HX2.out).trans HX3.out⟩
theorem xDI (w0:World) (h g t:Nat) (er:Int) (l:List UInt8) (reg elem:Int) (flds:List Int) (Af:Option Addr) (cf:Nat) (X:World) (hf:Slc 1 RInt w0 Af cf flds) (hs:ES w0 h g t X er l) (hfl:∀i∈flds,0≤i∧i≤65535) (hl:(l ++ typeW ⟨4,false,reg,elem,flds⟩).length≤1000000000):
 Calls Tryz.prog 35 #[.pointer (some ⟨h,0,none⟩),.agg #[.int .i64 4,.bool false,.int .i64 reg,.int .i64 elem,.slice Af flds.length cf]] X fun e' w'=>e' = .returned (.tuple #[])∧ES w0 h g t w' er (l ++ typeW ⟨4,false,reg,elem,flds⟩)∧WrE g h X w':=by
 have htw:typeW ⟨4,false,reg,elem,flds⟩=4 :: listW putI flds:=by simp [typeW]
 rw [htw] at hl ⊢
 clear htw
 obtain ⟨W,hW⟩:∃W,X.alloc (.cells #[.int .i64 4,.bool false,.int .i64 reg,.int .i64 elem,.slice Af flds.length cf] 83)=W:=⟨_,rfl⟩
 have hb:Below X.heap.size X W:=by rw [← hW];exact (aV _ _).alloc (aW _) _
 have hk:W.heap[X.heap.size]?=some (.cells #[.int .i64 4,.bool false,.int .i64 reg,.int .i64 elem,.slice Af flds.length cf] 83 (0,0)):=by rw [← hW];exact heap_alloc_new X _
 have hsW:=hs.keep hb
 have hhl:h<X.heap.size:=(Array.getElem?_eq_some_iff.1 hs.at_).1
 have hgl:=hs.wr.lt
 obtain ⟨z0,z1,z2,z3,z4,_⟩:=blk5 hk
 obtain ⟨t0,t1,t2,_⟩:=trip hsW.at_
 have HK:=aF hk
 have HSW:=aF hsW
 have HB:=aF hb
 have HL:=aF hl
 have HF:=aF hf
 have hle:=hf.le
 have hbg:=hf.big
 clear hs hl hk hsW hb hf
 have hl1:l.length≤1000000000:=by have:=HL.out;rw [aZ] at this;omega
 have HBY:Hid (Calls Tryz.prog 82 #[.pointer (some ⟨g,0,none⟩),.int .u8 4] W fun e' w'=>e' = .returned (.tuple #[])∧WRd w' g (l ++ [4])∧Wr g W w'):=aF (mM g l 4 W HSW.out.wr hl1 (by omega))
 go_enter Tryz.func35,Tryz.ntmps35
 go_wp2_with fail
 go_at_call 82
 refine HBY.out.mono ?_
 rintro e' w1 ⟨rfl,hw1,hx1⟩
 have hs1:=HSW.out.wrs hx1 hw1
 have hk1:=hx1.block _ _ HK.out (by omega) (.inr rfl)
 obtain ⟨y0,y1,y2,y3,y4,_⟩:=blk5 hk1
 obtain ⟨u0,u1,u2,_⟩:=trip hs1.at_
 have HS1:=aF hs1
 have HX1:=aF (WrE.of_wr (h:=h) hx1)
 have HK1:=aF hk1
 clear hw1 hx1 hs1 hk1 HBY
 go_wp2_with fail
 go_at_call 83
 refine (xAA w0 h g t er _ flds Af cf w1 HF.out HS1.out (fun x hx=>by have:=hfl x hx;omega) (by have h:=HL.out;simp only [aZ,bJ,bO] at h ⊢;omega)).mono ?_
 rintro e' w2 ⟨rfl,hs2,hx2⟩
 have HS2:Hid (ES w0 h g t w2 er (l ++ 4 :: listW putI flds)):=aF (by
  rw [jJ,bK] at hs2
  exact hs2)
 have HX2:=aF hx2
 clear hs2 hx2
 go_wp2_with fail
 exact bodyPost_end (v:= .tuple #[]) (by simp [results,Tryz.results35,go_sem] <;> rfl) rfl ⟨rfl,HS2.out,((WrE.of_below HB.out).trans HX1.out).trans HX2.out⟩
theorem zU (w0:World) (h g t:Nat) (er:Int) (l:List UInt8) (reg elem:Int) (flds:List Int) (Af:Option Addr) (cf:Nat) (X:World) (hf:Slc 1 RInt w0 Af cf flds) (hs:ES w0 h g t X er l)  (hl:(l ++ typeW ⟨0,false,reg,elem,flds⟩).length≤1000000000):
 Calls Tryz.prog 35 #[.pointer (some ⟨h,0,none⟩),.agg #[.int .i64 0,.bool false,.int .i64 reg,.int .i64 elem,.slice Af flds.length cf]] X fun e' w'=>e' = .returned (.tuple #[])∧ES w0 h g t w' er (l ++ typeW ⟨0,false,reg,elem,flds⟩)∧WrE g h X w':=by
 have htw:typeW ⟨0,false,reg,elem,flds⟩=[0]:=by simp [typeW]
 rw [htw] at hl ⊢
 clear htw
 obtain ⟨W,hW⟩:∃W,X.alloc (.cells #[.int .i64 0,.bool false,.int .i64 reg,.int .i64 elem,.slice Af flds.length cf] 83)=W:=⟨_,rfl⟩
 have hb:Below X.heap.size X W:=by rw [← hW];exact (aV _ _).alloc (aW _) _
 have hk:W.heap[X.heap.size]?=some (.cells #[.int .i64 0,.bool false,.int .i64 reg,.int .i64 elem,.slice Af flds.length cf] 83 (0,0)):=by rw [← hW];exact heap_alloc_new X _
 have hsW:=hs.keep hb
 have hhl:h<X.heap.size:=(Array.getElem?_eq_some_iff.1 hs.at_).1
 have hgl:=hs.wr.lt
 obtain ⟨z0,z1,z2,z3,z4,_⟩:=blk5 hk
 obtain ⟨t0,t1,t2,_⟩:=trip hsW.at_
 have HK:=aF hk
 have HSW:=aF hsW
 have HB:=aF hb
 have HL:=aF hl
 have HF:=aF hf
 have hle:=hf.le
 have hbg:=hf.big
 clear hs hl hk hsW hb hf
 have hl1:l.length≤1000000000:=by have:=HL.out;rw [aZ] at this;omega
 have HBY:Hid (Calls Tryz.prog 82 #[.pointer (some ⟨g,0,none⟩),.int .u8 0] W fun e' w'=>e' = .returned (.tuple #[])∧WRd w' g (l ++ [0])∧Wr g W w'):=aF (mM g l 0 W HSW.out.wr hl1 (by omega))
 go_enter Tryz.func35,Tryz.ntmps35
 go_wp2_with fail
 go_at_call 82
 refine HBY.out.mono ?_
 rintro e' w1 ⟨rfl,hw1,hx1⟩
 have hs1:=HSW.out.wrs hx1 hw1
 have hk1:=hx1.block _ _ HK.out (by omega) (.inr rfl)
 obtain ⟨y0,y1,y2,y3,y4,_⟩:=blk5 hk1
 obtain ⟨u0,u1,u2,_⟩:=trip hs1.at_
 have HS1:=aF hs1
 have HX1:=aF (WrE.of_wr (h:=h) hx1)
 have HK1:=aF hk1
 clear hw1 hx1 hs1 hk1 HBY
 go_wp2_with fail
 exact bodyPost_end (v:= .tuple #[]) (by simp [results,Tryz.results35,go_sem] <;> rfl) rfl ⟨rfl,HS1.out,(WrE.of_below HB.out).trans HX1.out⟩
theorem zT (w0:World) (h g t:Nat) (er:Int) (l:List UInt8) (reg elem:Int) (flds:List Int) (Af:Option Addr) (cf:Nat) (X:World) (hf:Slc 1 RInt w0 Af cf flds) (hs:ES w0 h g t X er l)  (hl:(l ++ typeW ⟨1,false,reg,elem,flds⟩).length≤1000000000):
 Calls Tryz.prog 35 #[.pointer (some ⟨h,0,none⟩),.agg #[.int .i64 1,.bool false,.int .i64 reg,.int .i64 elem,.slice Af flds.length cf]] X fun e' w'=>e' = .returned (.tuple #[])∧ES w0 h g t w' er (l ++ typeW ⟨1,false,reg,elem,flds⟩)∧WrE g h X w':=by
 have htw:typeW ⟨1,false,reg,elem,flds⟩=[1]:=by simp [typeW]
 rw [htw] at hl ⊢
 clear htw
 obtain ⟨W,hW⟩:∃W,X.alloc (.cells #[.int .i64 1,.bool false,.int .i64 reg,.int .i64 elem,.slice Af flds.length cf] 83)=W:=⟨_,rfl⟩
 have hb:Below X.heap.size X W:=by rw [← hW];exact (aV _ _).alloc (aW _) _
 have hk:W.heap[X.heap.size]?=some (.cells #[.int .i64 1,.bool false,.int .i64 reg,.int .i64 elem,.slice Af flds.length cf] 83 (0,0)):=by rw [← hW];exact heap_alloc_new X _
 have hsW:=hs.keep hb
 have hhl:h<X.heap.size:=(Array.getElem?_eq_some_iff.1 hs.at_).1
 have hgl:=hs.wr.lt
 obtain ⟨z0,z1,z2,z3,z4,_⟩:=blk5 hk
 obtain ⟨t0,t1,t2,_⟩:=trip hsW.at_
 have HK:=aF hk
 have HSW:=aF hsW
 have HB:=aF hb
 have HL:=aF hl
 have HF:=aF hf
 have hle:=hf.le
 have hbg:=hf.big
 clear hs hl hk hsW hb hf
 have hl1:l.length≤1000000000:=by have:=HL.out;rw [aZ] at this;omega
 have HBY:Hid (Calls Tryz.prog 82 #[.pointer (some ⟨g,0,none⟩),.int .u8 1] W fun e' w'=>e' = .returned (.tuple #[])∧WRd w' g (l ++ [1])∧Wr g W w'):=aF (mM g l 1 W HSW.out.wr hl1 (by omega))
 go_enter Tryz.func35,Tryz.ntmps35
 go_wp2_with fail
 go_at_call 82
 refine HBY.out.mono ?_
 rintro e' w1 ⟨rfl,hw1,hx1⟩
 have hs1:=HSW.out.wrs hx1 hw1
 have hk1:=hx1.block _ _ HK.out (by omega) (.inr rfl)
 obtain ⟨y0,y1,y2,y3,y4,_⟩:=blk5 hk1
 obtain ⟨u0,u1,u2,_⟩:=trip hs1.at_
 have HS1:=aF hs1
 have HX1:=aF (WrE.of_wr (h:=h) hx1)
 have HK1:=aF hk1
 clear hw1 hx1 hs1 hk1 HBY
 go_wp2_with fail
 exact bodyPost_end (v:= .tuple #[]) (by simp [results,Tryz.results35,go_sem] <;> rfl) rfl ⟨rfl,HS1.out,(WrE.of_below HB.out).trans HX1.out⟩
theorem zS (w0:World) (h g t:Nat) (er:Int) (l:List UInt8) (reg elem:Int) (flds:List Int) (Af:Option Addr) (cf:Nat) (X:World) (hf:Slc 1 RInt w0 Af cf flds) (hs:ES w0 h g t X er l)  (hl:(l ++ typeW ⟨2,false,reg,elem,flds⟩).length≤1000000000):
 Calls Tryz.prog 35 #[.pointer (some ⟨h,0,none⟩),.agg #[.int .i64 2,.bool false,.int .i64 reg,.int .i64 elem,.slice Af flds.length cf]] X fun e' w'=>e' = .returned (.tuple #[])∧ES w0 h g t w' er (l ++ typeW ⟨2,false,reg,elem,flds⟩)∧WrE g h X w':=by
 have htw:typeW ⟨2,false,reg,elem,flds⟩=[2]:=by simp [typeW]
 rw [htw] at hl ⊢
 clear htw
 obtain ⟨W,hW⟩:∃W,X.alloc (.cells #[.int .i64 2,.bool false,.int .i64 reg,.int .i64 elem,.slice Af flds.length cf] 83)=W:=⟨_,rfl⟩
 have hb:Below X.heap.size X W:=by rw [← hW];exact (aV _ _).alloc (aW _) _
 have hk:W.heap[X.heap.size]?=some (.cells #[.int .i64 2,.bool false,.int .i64 reg,.int .i64 elem,.slice Af flds.length cf] 83 (0,0)):=by rw [← hW];exact heap_alloc_new X _
 have hsW:=hs.keep hb
 have hhl:h<X.heap.size:=(Array.getElem?_eq_some_iff.1 hs.at_).1
 have hgl:=hs.wr.lt
 obtain ⟨z0,z1,z2,z3,z4,_⟩:=blk5 hk
 obtain ⟨t0,t1,t2,_⟩:=trip hsW.at_
 have HK:=aF hk
 have HSW:=aF hsW
 have HB:=aF hb
 have HL:=aF hl
 have HF:=aF hf
 have hle:=hf.le
 have hbg:=hf.big
 clear hs hl hk hsW hb hf
 have hl1:l.length≤1000000000:=by have:=HL.out;rw [aZ] at this;omega
 have HBY:Hid (Calls Tryz.prog 82 #[.pointer (some ⟨g,0,none⟩),.int .u8 2] W fun e' w'=>e' = .returned (.tuple #[])∧WRd w' g (l ++ [2])∧Wr g W w'):=aF (mM g l 2 W HSW.out.wr hl1 (by omega))
 go_enter Tryz.func35,Tryz.ntmps35
 go_wp2_with fail
 go_at_call 82
 refine HBY.out.mono ?_
 rintro e' w1 ⟨rfl,hw1,hx1⟩
 have hs1:=HSW.out.wrs hx1 hw1
 have hk1:=hx1.block _ _ HK.out (by omega) (.inr rfl)
 obtain ⟨y0,y1,y2,y3,y4,_⟩:=blk5 hk1
 obtain ⟨u0,u1,u2,_⟩:=trip hs1.at_
 have HS1:=aF hs1
 have HX1:=aF (WrE.of_wr (h:=h) hx1)
 have HK1:=aF hk1
 clear hw1 hx1 hs1 hk1 HBY
 go_wp2_with fail
 exact bodyPost_end (v:= .tuple #[]) (by simp [results,Tryz.results35,go_sem] <;> rfl) rfl ⟨rfl,HS1.out,(WrE.of_below HB.out).trans HX1.out⟩
theorem wM (w0:World) (h g t:Nat) (er:Int) (l:List UInt8) (x:Ty) (Af:Option Addr) (cf:Nat) (X:World) (hf:Slc 1 RInt w0 Af cf x.flds) (hs:ES w0 h g t X er l) (hn:TyGood x) (hl:(l ++ typeW x).length≤1000000000):
 Calls Tryz.prog 35 #[.pointer (some ⟨h,0,none⟩),.agg #[.int .i64 x.kind,.bool x.mu,.int .i64 x.reg,.int .i64 x.elem,.slice Af x.flds.length cf]] X fun e' w'=>e' = .returned (.tuple #[])∧ES w0 h g t w' er (l ++ typeW x)∧WrE g h X w':=by
 obtain ⟨kind,mu,reg,elem,flds⟩:=x
 rcases hn with ⟨h1,h2,h3,h4⟩ | ⟨h1,h2,h3,h4,h5,h6⟩ | ⟨h1,h2,h3,h4,h5,h6⟩
 ·simp only at h1 h2 h3
  subst h1
  cases mu
  ·exact xDJ w0 h g t er l reg elem flds Af cf X hf hs h2 h3 hl
  ·exact xDH w0 h g t er l reg elem flds Af cf X hf hs h2 h3 hl
 ·simp only at h1 h2 h6
  subst h1 h2
  exact xDI w0 h g t er l reg elem flds Af cf X hf hs h6 hl
 ·simp only at h1 h2 h3
  subst h3
  rcases (show kind=0∨kind=1∨kind=2 by omega) with rfl | rfl | rfl
  ·exact zU w0 h g t er l reg elem flds Af cf X hf hs hl
  ·exact zT w0 h g t er l reg elem flds Af cf X hf hs hl
  ·exact zS w0 h g t er l reg elem flds Af cf X hf hs hl
theorem zX (w0:World) (h g t:Nat) (er:Int) (l:List UInt8) (xs:List Ty) (A:Option Addr) (d:Nat) (X:World) (hxs:Slc 5 RTy w0 A d xs) (hs:ES w0 h g t X er l) (hn:∀x∈xs,TyGood x) (hl:(l ++ listW typeW xs).length≤1000000000):
 Calls Tryz.prog 34 #[.pointer (some ⟨h,0,none⟩),.slice A xs.length d,.func (.func 35) #[.pointer (some ⟨h,0,none⟩)] #[]] X fun e' w'=>e' = .returned (.tuple #[])∧ES w0 h g t w' (xs.foldl (fun e _=>e) er) (l ++ listW typeW xs)∧WrE g h X w':=by
 have hle:=hxs.le
 have hbg:=hxs.big
 have HXS:=aF hxs
 have HN:=aF hn
 have HL:=aF hl
 have HS:=aF hs
 have hhl:h<X.heap.size:=(Array.getElem?_eq_some_iff.1 hs.at_).1
 have hgh:=hs.hg
 have HW:Hid (listW typeW xs=putI (xs.length:Int) ++ xs.flatMap typeW):=aF rfl
 have HE:=aF (dT w0 h g t er l (xs.length:Int) X hs (by omega) (by have h:=hl;rw [HW.out] at h;simp only [aZ] at h ⊢;omega))
 clear hxs hs hn hl
 go_enter Tryz.func34,Tryz.ntmps34
 go_wp2_with fail
 go_at_call 38
 refine HE.out.mono ?_
 rintro e' w1 ⟨rfl,hs1,hx1⟩
 have HS1:=aF hs1
 have HX1:=aF hx1
 clear hs1 hx1 HE
 go_wp2_with fail
 go_loopw [14] (fun i wr=>∃k:Nat,k≤xs.length∧i = .int .i64 k∧Hid (ES w0 h g t wr ((xs.take k).foldl (fun e _=>e) er) (l ++ (putI (xs.length:Int) ++ (xs.take k).flatMap typeW)))∧Hid (WrE g h X wr)) (fun i _=>xs.length - (intOf i).toNat)
 case atStart=>exact ⟨0,by omega,rfl,aF (by simpa using HS1.out),HX1⟩
 case round=>
  obtain ⟨k,hk,rfl,HSk,HXk⟩:=hrel
  by_cases hlt:k<xs.length
  ·obtain ⟨b,o,rfl,hb,y0⟩:=HXS.out.sl.at_ hlt
   have YK:=aF (RTy.keeps w0 wr w0.heap.size w0.heap.size b _ _ (aW _) hb HSk.out.bel y0)
   have HTK:Hid (xs.take (k+1)=xs.take k ++ [xs[k]]):=aF (bE hlt)
   have HNX:=aF (HN.out xs[k] (bM hlt))
   have HLK:Hid ((l ++ (putI (xs.length:Int) ++ (xs.take k).flatMap typeW) ++ typeW xs[k]).length≤1000000000):=aF (by
    have h1:=HL.out
    rw [HW.out,← cG (k+1) xs] at h1
    rw [HTK.out] at h1
    simp only [cA,List.flatMap_cons,List.flatMap_nil,List.append_nil,aZ,cN,List.length_drop,bJ,bO] at h1 ⊢
    have e:min k xs.length+(0+1)+(xs.length - (k+1))=xs.length:=by omega
    first
    | omega
    | (rw [e] at h1;omega))
   generalize xs[k]=x at *
   obtain ⟨_,_,_,_,Af,cf,q4,q5,q6,q7⟩:=y0
   have HFS:Hid (Slc 1 RInt w0 Af cf x.flds):=aF ⟨q7,q5,q6⟩
   obtain ⟨p0,p1,p2,p3,Af2,cf2,p4,_,_,_⟩:=YK.out
   have he:(Value.slice Af2 x.flds.length cf2) = .slice Af x.flds.length cf:=by
    have h1:=cell_keep (HSk.out.bel) q4
    rw [p4] at h1
    injection h1
   rw [he] at p4
   clear q4 q5 q6 q7 he YK
   obtain ⟨W3,hW3⟩:∃W3,wr.alloc (.cells #[.int .i64 x.kind,.bool x.mu,.int .i64 x.reg,.int .i64 x.elem,.slice Af x.flds.length cf] 83)=W3:=⟨_,rfl⟩
   have hbA:Below wr.heap.size wr W3:=by rw [← hW3];exact (aV _ _).alloc (aW _) _
   have hkA:W3.heap[wr.heap.size]?=some (.cells #[.int .i64 x.kind,.bool x.mu,.int .i64 x.reg,.int .i64 x.elem,.slice Af x.flds.length cf] 83 (0,0)):=by rw [← hW3];exact heap_alloc_new wr _
   obtain ⟨z0,z1,z2,z3,z4,_⟩:=blk5 hkA
   have HBA:=aF hbA
   have HSA:=aF (HSk.out.keep hbA)
   clear hbA hkA
   go_wp2_with fail
   go_at_call 35
   refine (wM w0 h g t _ _ x Af cf W3 HFS.out HSA.out HNX.out HLK.out).mono ?_
   rintro e' w2 ⟨rfl,hs2,hx2⟩
   have HS2:Hid (ES w0 h g t w2 ((xs.take (k+1)).foldl (fun e _=>e) er) (l ++ (putI (xs.length:Int) ++ (xs.take (k+1)).flatMap typeW))):=aF (by
    rw [HTK.out,List.foldl_append,cA,List.flatMap_singleton,← bK,← bK]
    rw [← bK] at hs2
    exact hs2)
   have HX2:=aF hx2
   clear hs2 hx2
   go_wp2_with fail
   go_roundw
   case rel=>exact ⟨k+1,by omega,by go_num,HS2,aF ((HXk.out.trans (WrE.of_below HBA.out)).trans HX2.out)⟩
   case measure=>simp [intOf];omega
  ·have hke:k=xs.length:=by omega
   have ht:xs.take k=xs:=by rw [hke,bZ]
   have hfin:=HSk.out
   rw [ht,← HW.out] at hfin
   have HFIN:=aF hfin
   clear hke ht hfin
   go_wp2_with fail
   exact bodyPost_end (v:= .tuple #[]) (by simp [results,Tryz.results34,go_sem] <;> rfl) rfl ⟨rfl,HFIN.out,HXk.out⟩
end
end Go.Proofs.YtbnljlpefpllcaaGreatDoor
