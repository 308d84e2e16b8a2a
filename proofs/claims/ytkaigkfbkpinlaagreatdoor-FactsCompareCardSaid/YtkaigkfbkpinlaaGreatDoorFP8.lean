/-
  Parts of the proof: F8 F9 V27 V29.
-/
import Derived.Test.YtkaigkfbkpinlaaGreatDoorFP0
import Derived.Test.YtkaigkfbkpinlaaGreatDoorFP7
import Derived.Test.YtkaigkfbkpinlaaGreatDoorFP3
import Derived.Test.YtkaigkfbkpinlaaGreatDoorFP5
namespace Go.Proofs.YtkaigkfbkpinlaaGreatDoor
set_option maxRecDepth 100000
set_option maxHeartbeats 16000000
section
open Go Go.RowKit Go.Shelf
attribute [local go_sem] Oper.semAt_some
attribute [local irreducible] Calls
theorem xDS (b:Bdy) (bh:BH) (p:Int) (w:World):
 Calls Tryz.prog 96 #[.agg (bdC b bh).toArray,.int .i64 p] w fun e' w'=>e' = .returned (.func (.func 138) #[] #[.pointer (some ⟨w.heap.size,0,none⟩),.pointer (some ⟨w.heap.size+1,0,none⟩)])/\w'=(w.alloc (.cells (bdC b bh).toArray 59)).alloc (.cells #[.int .i64 p] 3):=by
 unfold bdC;go_enter Tryz.func96,Tryz.ntmps96
 go_wp2
 go_ret;exact ⟨rfl,rfl⟩
def accQ (n:Nat) (b:Bdy) (p:Int) (bx bp:Nat) (w0 w:World):Prop:=∃L:List Ax,L.map (·.a)=acPt b.blocks p/\(∀e∈L,Slc 2 RPj w0 e.A e.c e.a.place.proj)/\
 SeqK Fence.wide n Tryz.prog 138 #[.pointer (some ⟨bx,0,none⟩),.pointer (some ⟨bp,0,none⟩)] encX TA (fun k=>k<w0.heap.size\/k=bx\/k=bp) L w
theorem xBD (n:Nat) (hn:1<=n) (b:Bdy) (bh:BH) (p:Int) (bx bp:Nat) (w0 w:World) (hw:Below w0.heap.size w0 w) (H:BdAt w0 b bh) (hx:∀i v,(bdC b bh)[i]?=some v->w.cell? ⟨bx,i,none⟩=some v) (hp:w.cell? ⟨bp,0,none⟩=some (.int .i64 p)) (hc:cntB b.blocks<=1000000000000) (hpr : -9223372036854775808<=p/\p<=9223372036854775807) (hloc:locB b.blocks p=none):
 accQ n b p bx bp w0 w:=by
 refine ⟨[],by rw [xT hloc];rfl,by simp,?_⟩;intro l J Jx W hW hJ hJx hY hj0;have HL:=aH (fun (X:World) (hb:Below w0.heap.size w0 X)=>lR b bh p X (H.keep hb) hc hpr);rw [hloc] at HL;unfold lcV at HL;obtain ⟨W0,hW0⟩:∃W0,W.alloc (.cells #[.func (.yield l) #[] #[]] 209)=W0:=⟨_,rfl⟩;have hb0:=alF W (.cells #[.func (.yield l) #[] #[]] 209);rw [hW0] at hb0;have HX:=aH (fun i v h=>cQ hb0 (cQ hW (hx i v h)));have gp:=cQ hb0 (cQ hW hp);have HJ:=aH hJ;have H0:=aH hj0;have HB0:=aH ((hw.trans (hW.mono hw.size)).trans (hb0.mono (hw.trans (hW.mono hw.size)).size));have HBB0:=aH hb0;unfold bdC at HX HL;obtain ⟨x0,x1,x2,x3,x4,x5,x6⟩:=aU HX.out;clear HX hx hp hY hj0 H hW hb0 hw hJ hJx;refine callsIn_of_wp_marks Tryz.func138 rfl trivial ?_ rfl;simp only [Tryz.ntmps138,List.size_toArray,bN,bQ,Nat.reduceAdd,Nat.reduceSub,Array.replicate_succ,Array.replicate_zero,List.push_toArray,List.append_toArray,List.nil_append,List.cons_append];gi_wp2_with (refine ⟨trivial,?_⟩;gi_at_call 92;refine (callsIn_wide.2 (HL.out _ HB0.out)).mono ?_;rintro e' w1 ⟨rfl,hb1⟩;have HB1:=aH hb1;clear hb1)
 exact ⟨_,results_none rfl _ _ _,⟨_,rfl⟩,.inl (HJ.out _ _ _ H0.out (Turn.of_below (HBB0.out.trans (HB1.out.mono HBB0.out.size))))⟩
theorem xFD (n:Nat) (hn:3<=n) (b:Bdy) (bh:BH) (p:Int) (bx bp:Nat) (w0 w:World) (hw:Below w0.heap.size w0 w) (H:BdAt w0 b bh) (hx:∀i v,(bdC b bh)[i]?=some v->w.cell? ⟨bx,i,none⟩=some v) (hp:w.cell? ⟨bp,0,none⟩=some (.int .i64 p)) (hc:cntB b.blocks<=1000000000000) (hpr : -9223372036854775808<=p/\p<=9223372036854775807)
 (i k:Nat) (x:Blk) (hloc:locB b.blocks p=some (i,k)) (hbx:b.blocks[i]?=some x) (hk:k<x.stmts.length):
 accQ n b p bx bp w0 w:=by
 have hi:=(List.getElem?_eq_some_iff.1 hbx).1;have hi2:(i:Int)<(b.blocks.length:Int):=by omega
 have hbl:=H.blk.le;have hbb:=H.blk.big;obtain ⟨g,o,hA,hg,hxx⟩:=H.blk.sl.at_ hi;have hxe:b.blocks[i]=x:=by rw [bF hi] at hbx;exact Option.some.inj hbx
 rw [hxe] at hxx;obtain ⟨A1,c1,A2,c2,A3,c3,A4,c4,q0,q1,q2,q3,q4,q5,q6,hs1,-,hs3,hs4⟩:=eX hxx;obtain ⟨a0,hsta⟩:=uB hs1 k;have hl1:=hs1.le;have hl1b:=hs1.big;have HWS:=aH (tH hs1 hs4 hsta);have HWR:=aH (fun (X:World) (hb:Below w0.heap.size w0 X)=>mY x A1 A2 A3 A4 c1 c2 c3 c4 k X (hs1.keep RSt.keeps hb) (by omega) a0 (hsta.keep hb));unfold bkL wrV at HWR;obtain ⟨sb,so,hSA,hsb,hss⟩:=hs1.sl.at_ hk;obtain ⟨A0,c0,rA,rc,B,d,-,-,-,e3,e4,e5,e6,e7,e8,e9,-,-,hsr,hsa⟩:=iM hss;have hk2:(k:Int)<(x.stmts.length:Int):=by omega
 have hdk:decide ((k:Int)<(x.stmts.length:Int))=true:=by simp;omega
 have HAG:Hid (acG x k=rdL x.stmts[k].rv.args ++ ifA (x.stmts[k].rv.kind=1) ⟨x.stmts[k].rv.place,x.stmts[k].rv.mu,true⟩ ++ ifA ((wrP x k).2.1=true) ⟨(wrP x k).1,true,false⟩):=aH (by unfold acG iY acBor;rw [bF hk]);obtain ⟨⟨rl,rj⟩,hre⟩:∃p:Plc,x.stmts[k].rv.place=p:=⟨_,rfl⟩;rw [hre] at HAG e7 e8 hsr;simp only at e7 e8 hsr;generalize x.stmts[k].rv.kind=rkd at *;generalize x.stmts[k].rv.op=rop at *;generalize x.stmts[k].rv.reg=rrg at *;generalize x.stmts[k].rv.mu=rmu at *;generalize x.stmts[k].rv.args=os at *;rw [hSA] at q0 HWR;obtain ⟨ad,hads⟩:=ad_of hsa;have hal:=hsa.le;have hab:=hsa.big;obtain ⟨⟨wp,w1b,w2b⟩,hq⟩:∃q,wrP x k=q:=⟨_,rfl⟩;obtain ⟨⟨wA,wc⟩,hwa⟩:∃q,wrA x k a0 (A4,c4)=q:=⟨_,rfl⟩;rw [hq,hwa] at HWR HWS;rw [hq] at HAG;simp only at HWR HWS HAG;obtain ⟨L2,hL2⟩:∃L2:List Ax,L2=if rkd=1 then [⟨⟨⟨rl,rj⟩,rmu,true⟩,rA,rc⟩] else []:=⟨_,rfl⟩
 obtain ⟨L3,hL3⟩:∃L3:List Ax,L3=if w1b=true then [⟨⟨wp,true,false⟩,wA,wc⟩] else []:=⟨_,rfl⟩
 refine ⟨opL os ad (os).length ++ L2 ++ L3,?_,?_,?_⟩
 ·rw [xU hloc hbx,HAG.out,bV,bV,qA _ _ _ (bA _),cB];have t2:L2.map (·.a)=ifA (rkd=1) ⟨⟨rl,rj⟩,rmu,true⟩:=by rw [hL2];unfold ifA;split <;> rfl
  have t3:L3.map (·.a)=ifA (w1b=true) ⟨wp,true,false⟩:=by rw [hL3];unfold ifA;split <;> rfl
  rw [t2,t3]
 ·intro e he;rw [cL,cL] at he;rcases he with (he | he) | he
  ·exact pZ hads _ (bA _) e he
  ·rw [hL2] at he;split at he
   ·rw [bU] at he;subst he;exact hsr
   ·cases he
  ·rw [hL3] at he;split at he
   ·rw [bU] at he;subst he;exact HWS.out
   ·cases he
 intro l J Jx W hW hJ hJx hY hj0;have hn1:1<=n:=by omega
 have hW0s:=hw.size;have hWs:=hW.size;have HL:=aH (fun (X:World) (hb:Below w0.heap.size w0 X)=>lR b bh p X (H.keep hb) hc hpr);rw [hloc] at HL;unfold lcV at HL;simp only at HL;have HX:=aH (fun i v h=>cQ hW (hx i v h));have gp:=cQ hW hp;have HJ:=aH hJ;have HJX:=aH hJx;have HY:=aH hY;have H0:=aH hj0;have HBW:=aH (hw.trans (hW.mono hw.size));unfold bdC at HX HL;obtain ⟨x0,x1,x2,x3,x4,x5,x6⟩:=aU HX.out;have HAE:=aH hA;have HADS:=aH hads;have HL2:=aH hL2;have HL3:=aH hL3;have HBXL:Hid (bx<W.heap.size):=aH (cF _ _ x0);obtain ⟨W0,hW0⟩:∃W0,W.alloc (.cells #[.func (.yield l) #[] #[]] 209)=W0:=⟨_,rfl⟩;have hb0:=alF W (.cells #[.func (.yield l) #[] #[]] 209);have hy0:=heap_alloc_new W (.cells #[.func (.yield l) #[] #[]] 209);have hz0:W0.heap.size=W.heap.size+1:=by rw [<- hW0];simp
 rw [hW0] at hb0 hy0;have HY0:=aH hy0;have HB0:=aH (HBW.out.trans (hb0.mono HBW.out.size));have HZ0:=aH hz0;have HBB0:=aH hb0;replace x0:=cQ hb0 x0;replace x1:=cQ hb0 x1;replace x2:=cQ hb0 x2;replace x3:=cQ hb0 x3;replace x4:=cQ hb0 x4;replace x5:=cQ hb0 x5;replace x6:=cQ hb0 x6;replace gp:=cQ hb0 gp;have HBO:=aH (fun (X:World) (hX:Below W0.heap.size W0 X)=>(aH (HB0.out.trans (hX.mono HB0.out.size)):Hid (Below w0.heap.size w0 X)));clear HX hx hp hY hj0 H hW hA hads hbx hloc hxx hxe hs1 hs3 hs4 hsa hsr hsta hwa hq hL2 hL3 hb0 hy0 hz0 hJ hJx HAG hre hss HWS;refine callsIn_of_wp_marks Tryz.func138 rfl trivial ?_ rfl;simp only [Tryz.ntmps138,List.size_toArray,bN,bQ,Nat.reduceAdd,Nat.reduceSub,Array.replicate_succ,Array.replicate_zero,List.push_toArray,List.append_toArray,List.nil_append,List.cons_append]
 gi_wp2_with (first
  | (refine ⟨trivial,?_⟩;gi_at_call 139;refine (callsIn_wide.2 (oM _ _ _ _)).mono ?_;rintro e' w5 ⟨rfl,rfl⟩)
  | (refine ⟨trivial,?_⟩;gi_at_call 92;go_loud (refine (callsIn_wide.2 (HL.out _ HB0.out)).mono ?_;rintro e' w1 ⟨rfl,hb1⟩;replace x6:=cQ hb1 x6;rw [HAE.out] at x6;have HB1:=aH (HB0.out.trans (hb1.mono HB0.out.size));have HBB1:=aH hb1;replace q0:=cQ HB1.out q0;replace q1:=cQ HB1.out q1;replace q2:=cQ HB1.out q2;replace q3:=cQ HB1.out q3;replace q4:=cQ HB1.out q4;replace q5:=cQ HB1.out q5;replace q6:=cQ HB1.out q6;replace e3:=cQ HB1.out e3;replace e4:=cQ HB1.out e4;replace e5:=cQ HB1.out e5;replace e6:=cQ HB1.out e6;replace e7:=cQ HB1.out e7;replace e8:=cQ HB1.out e8;replace e9:=cQ HB1.out e9;obtain ⟨W2,hW2⟩:∃W2,w1.alloc (.cells ([Value.slice (some ⟨sb,so,none⟩) x.stmts.length c1,.int .i64 x.term.kind,.slice A2 x.term.targets.length c2,.slice A3 x.term.args.length c3,.int .i64 x.term.place.loc,.slice A4 x.term.place.proj.length c4,.string x.term.name]).toArray 116)=W2:=⟨_,rfl⟩;have hb2:=alF w1 (.cells ([Value.slice (some ⟨sb,so,none⟩) x.stmts.length c1,.int .i64 x.term.kind,.slice A2 x.term.targets.length c2,.slice A3 x.term.args.length c3,.int .i64 x.term.place.loc,.slice A4 x.term.place.proj.length c4,.string x.term.name]).toArray 116);have hh2:=heap_alloc_new w1 (.cells ([Value.slice (some ⟨sb,so,none⟩) x.stmts.length c1,.int .i64 x.term.kind,.slice A2 x.term.targets.length c2,.slice A3 x.term.args.length c3,.int .i64 x.term.place.loc,.slice A4 x.term.place.proj.length c4,.string x.term.name]).toArray 116);have hz2:W2.heap.size=w1.heap.size+1:=(by rw [<- hW2];simp);rw [hW2] at hb2 hh2;have yy:=cR (l:=[Value.slice (some ⟨sb,so,none⟩) x.stmts.length c1,.int .i64 x.term.kind,.slice A2 x.term.targets.length c2,.slice A3 x.term.args.length c3,.int .i64 x.term.place.loc,.slice A4 x.term.place.proj.length c4,.string x.term.name]) hh2;have y0:=yy 0 _ rfl;have y3:=yy 3 _ rfl;clear yy;obtain ⟨W3,hW3⟩:∃W3,W2.alloc (.cells #[.int .i64 0,.int .i64 0,.int .i64 0,.bool false,.int .i64 0,.slice none 0 0,.slice none 0 0] 109)=W3:=⟨_,rfl⟩;have hb3:=alF W2 (.cells #[.int .i64 0,.int .i64 0,.int .i64 0,.bool false,.int .i64 0,.slice none 0 0,.slice none 0 0] 109);have hh3:=heap_alloc_new W2 (.cells #[.int .i64 0,.int .i64 0,.int .i64 0,.bool false,.int .i64 0,.slice none 0 0,.slice none 0 0] 109);have hz3:W3.heap.size=W2.heap.size+1:=(by rw [<- hW3];simp);rw [hW3] at hb3 hh3;have zz:=cR (l:=[.int .i64 0,.int .i64 0,.int .i64 0,.bool false,.int .i64 0,.slice none 0 0,.slice none 0 0]) hh3;have z0:=zz 0 _ rfl;have z1:=zz 1 _ rfl;have z2:=zz 2 _ rfl;have z3:=zz 3 _ rfl;have z4:=zz 4 _ rfl;have z5:=zz 5 _ rfl;have z6:=zz 6 _ rfl;have zf:∀i,W3.frozen? ⟨W2.heap.size,i,none⟩=false:=(fun i=>by simp [World.frozen?,hh3]);clear zz;have HB2:=aH hb2;have HH2:=aH hh2;have HZ2:=aH hz2;have HB3:=aH hb3;have HH3:=aH hh3;have HZ3:=aH hz3;replace y0:=cQ hb3 y0;replace e3:=cQ (HB2.out.trans (HB3.out.mono HB2.out.size)) e3;replace e4:=cQ (HB2.out.trans (HB3.out.mono HB2.out.size)) e4;replace e5:=cQ (HB2.out.trans (HB3.out.mono HB2.out.size)) e5;replace e6:=cQ (HB2.out.trans (HB3.out.mono HB2.out.size)) e6;replace e7:=cQ (HB2.out.trans (HB3.out.mono HB2.out.size)) e7;replace e8:=cQ (HB2.out.trans (HB3.out.mono HB2.out.size)) e8;replace e9:=cQ (HB2.out.trans (HB3.out.mono HB2.out.size)) e9;clear hb1 hb2 hh2 hz2 hb3 hh3 hz3 x0 x1 x2 x3 x4 x5)))
 generalize hW4:((((((W3.setCell ⟨W2.heap.size,0,none⟩ (.int .i64 rkd)).setCell ⟨W2.heap.size,1,none⟩ (.int .i64 rop)).setCell ⟨W2.heap.size,2,none⟩ (.int .i64 rrg)).setCell ⟨W2.heap.size,3,none⟩ (.bool rmu)).setCell ⟨W2.heap.size,4,none⟩ (.int .i64 rl)).setCell ⟨W2.heap.size,5,none⟩ (.slice rA rj.length rc)).setCell ⟨W2.heap.size,6,none⟩ (.slice B os.length d)=W4;obtain ⟨hr4,ho4,hbl4,hsz4⟩:=st7 HH3.out _ _ _ _ _ _ _ hW4;have hz3:=HZ3.out;have hz2:=HZ2.out;have hz0:=HZ0.out;have hzb:=HBB1.out.size;generalize hW5:W4.alloc (.cells #[.slice B (os).length d] 107)=W5;have hb5:=alF W4 (.cells #[.slice B (os).length d] 107);have ha5:=heap_alloc_new W4 (.cells #[.slice B (os).length d] 107);have hz5:W5.heap.size=W4.heap.size+1:=by rw [<- hW5];simp
 rw [hW5] at hb5 ha5;rw [hsz4] at ha5 hz5;have blk:∀j o',j<w1.heap.size->w1.heap[j]?=some o'->W5.heap[j]?=some o':=fun j o' hj h=>(hb5.block _ (by rw [hsz4];omega)).trans ((ho4 _ (by omega)).trans ((HB3.out.block _ (by omega)).trans ((HB2.out.block _ hj).trans h)))
 have hlow5:Below w0.heap.size w0 W5:=(hbl4 _ _ (by have:=HB1.out.size;omega) ((HB1.out.trans (HB2.out.mono HB1.out.size)).trans (HB3.out.mono (by have:=HB1.out.size;omega)))).trans (hb5.mono (by have:=HB1.out.size;rw [hsz4];omega));have hW5s:Below W.heap.size W W5:=(hbl4 _ _ (by omega) (((HBB0.out.trans (HBB1.out.mono (by omega))).trans (HB2.out.mono (by omega))).trans (HB3.out.mono (by omega)))).trans (hb5.mono (by rw [hsz4];omega));have hAW:AcW w0 W.heap.size W.heap.size w1.heap.size W2.heap.size W3.heap.size #[.func (.yield l) #[] #[]] ([Value.slice (some ⟨sb,so,none⟩) x.stmts.length c1,.int .i64 x.term.kind,.slice A2 x.term.targets.length c2,.slice A3 x.term.args.length c3,.int .i64 x.term.place.loc,.slice A4 x.term.place.proj.length c4,.string x.term.name]).toArray #[.int .i64 rkd,.int .i64 rop,.int .i64 rrg,.bool rmu,.int .i64 rl,.slice rA rj.length rc,.slice B os.length d] #[.slice B os.length d] W5:=⟨blk _ _ (by omega) ((HBB1.out.block _ (by omega)).trans HY0.out),(hb5.block _ (by rw [hsz4];omega)).trans ((ho4 _ (by omega)).trans ((HB3.out.block _ (by omega)).trans HH2.out)),(hb5.block _ (by rw [hsz4];omega)).trans hr4,ha5,hlow5,by omega,by omega⟩;have hJ5:J [] W5:=HJ.out _ _ _ H0.out (Turn.of_below hW5s);have hseq:=(oK TA (n - 1) (by omega) os B d ad W3.heap.size w0 W5 hlow5 HADS.out ⟨hal,hab⟩ (cR (l:=[.slice B (os).length d]) ha5 0 _ rfl)).k;have HZ:Hid (W.heap.size<W5.heap.size/\w1.heap.size<W5.heap.size/\W2.heap.size<W5.heap.size/\W3.heap.size<W5.heap.size/\w0.heap.size<=W.heap.size):=aH (by omega);have HYS:=aH hn;clear hb5 ha5 hz5 hW5 blk hlow5 hW5s hr4 ho4 hbl4 hsz4 hW4 HH3 HB3 HZ3 HB2 HH2 HZ2 HBB1 HB1 HB0 HZ0 HY0 HBB0 HADS hz3 hz2 hz0 hzb z0 z1 z2 z3 z4 z5 z6 zf y0 y3 x6 gp q0 q1 q2 q3 q4 q5 q6 HL HBO HAE H0 HBXL e3 e4 e5 e6 e7 e8 e9;have hW5lt:W.heap.size<=W5.heap.size:=by have:=HZ.out;omega
 refine gO rfl (by omega) (gf:=166) (lb:= #[.pointer (some ⟨W3.heap.size,0,none⟩)]) rfl trivial (enters_of Tryz.func166 (by kernel_rfl) rfl)
  hseq (aZ _ _) (by have:=HZ.out;rintro k (h | rfl) <;> omega) (fun _=>rfl)
  (fun pre X=>J pre X/\AcW w0 W.heap.size W.heap.size w1.heap.size W2.heap.size W3.heap.size #[.func (.yield l) #[] #[]] ([Value.slice (some ⟨sb,so,none⟩) x.stmts.length c1,.int .i64 x.term.kind,.slice A2 x.term.targets.length c2,.slice A3 x.term.args.length c3,.int .i64 x.term.place.loc,.slice A4 x.term.place.proj.length c4,.string x.term.name]).toArray #[.int .i64 rkd,.int .i64 rop,.int .i64 rrg,.bool rmu,.int .i64 rl,.slice rA rj.length rc,.slice B os.length d] #[.slice B os.length d] X)
  (fun c pre X=>c = .ret/\Jx pre X)
  (fun s A B hs ht=>⟨HJ.out _ _ _ hs.1 (ht.mono hW5lt),hs.2.turn ht (by have:=HZ.out;omega)⟩) (fun c s A B hs ht=>⟨hs.1,HJX.out _ _ _ hs.2 (ht.mono hW5lt)⟩)
  ⟨hJ5,hAW⟩ ?round ?done ?stop
 case round=>
  rintro lr pre ⟨⟨⟨pl,pj⟩,wr,dp⟩,eA,ec⟩ post Y hL hlr ⟨rr,hr⟩ hWs ⟨hJy,hAy⟩;simp only [encX,List.zip_toArray,List.zip_cons_cons];gi_wp2
  refine ⟨(Kb.refl _ _ _ _).alloc _,fun Y2 hrec=>?_⟩;obtain ⟨YL,hYL⟩:∃YL,Y.alloc (.cells #[.int .i64 pl,.slice eA pj.length ec,.bool wr,.bool dp] 165)=YL:=⟨_,rfl⟩;have hal1:=alF Y (.cells #[.int .i64 pl,.slice eA pj.length ec,.bool wr,.bool dp] 165);have s:=cT Y [.int .i64 pl,.slice eA pj.length ec,.bool wr,.bool dp] 165;rw [hYL] at hal1 s hrec;have s0:=hrec.cell (s 0 _ rfl);have s1:=hrec.cell (s 1 _ rfl);have s2:=hrec.cell (s 2 _ rfl);have s3:=hrec.cell (s 3 _ rfl);have hlr2:W.heap.size<=lr:=cA hW5lt hlr;have hA2:=(hAy.below hal1).rec_ hrec hlr2;have hJ2:=HJ.out _ _ _ hJy ((Turn.of_below hal1).trans (hrec.turn hlr2) |>.mono (bA _));have c0:=cR (l:=[.func (.yield l) #[] #[]]) hA2.yb 0 _ rfl;obtain ⟨fn,tmps,assign,body,hy,hR⟩:=HY.out pre ⟨⟨⟨pl,pj⟩,wr,dp⟩,eA,ec⟩ (post ++ L2 ++ L3) Y2 (by rw [hL];simp) hJ2;have HA2:=aH hA2;unfold encX at hy;simp only at hy;clear hal1 s hA2 hJ2 hAy hJy hrec hYL hr hseq;gi_wp2
  refine ⟨(fun h=>nomatch h),RoundIn.mono (iV hR) ?_⟩;clear hy hR;rintro e Y3 (⟨rfl,hJ3,hk3⟩ | ⟨rfl,hJx3,hk3⟩)
  ·have HIN:=aH (HA2.out.inner hk3 (fun k h=> .inl h) hW5lt);have HA3:=aH (HA2.out.kb hk3 (fun k h=> .inl h));have HJ3:=aH hJ3;clear hJ3 hk3;gi_wp2
   exact ⟨HIN.out,HJ3.out,HA3.out⟩
  ·have HIN:=aH (HA2.out.inner hk3 (fun k h=> .inl h) hW5lt);have HJ3:=aH hJx3;clear hJx3 hk3;gi_wp2
   exact ⟨HIN.out,rfl,HJ3.out⟩
 case stop=>
  rintro D c pre x' post Y hD hL ⟨rfl,hx'⟩ hK;have HXX:=aH hx';clear hx' hseq hJ5 hAW;gi_wp2
  refine ⟨by simp,.inl ⟨_,_,rfl,run_takeDeferred (w:=Y) hK,?_⟩⟩;exact ⟨_,results_none rfl _ _ _,⟨_,rfl⟩,.inr ⟨pre,x',post ++ L2 ++ L3,by rw [hL];simp,HJX.out _ _ _ HXX.out (Turn.putObj _ hK (cA hW5lt hD) rfl)⟩⟩
 case done=>
  rintro D Y hD ⟨hJy,hAy⟩ hK;have hD0:W.heap.size<=D:=cA hW5lt hD;clear hseq hJ5 hAW hD;have r0:=cR (l:=[.int .i64 rkd,.int .i64 rop,.int .i64 rrg,.bool rmu,.int .i64 rl,.slice rA rj.length rc,.slice B os.length d]) hAy.rb 0 _ rfl;have r3:=cR (l:=[.int .i64 rkd,.int .i64 rop,.int .i64 rrg,.bool rmu,.int .i64 rl,.slice rA rj.length rc,.slice B os.length d]) hAy.rb 3 _ rfl;have r4:=cR (l:=[.int .i64 rkd,.int .i64 rop,.int .i64 rrg,.bool rmu,.int .i64 rl,.slice rA rj.length rc,.slice B os.length d]) hAy.rb 4 _ rfl;have r5:=cR (l:=[.int .i64 rkd,.int .i64 rop,.int .i64 rrg,.bool rmu,.int .i64 rl,.slice rA rj.length rc,.slice B os.length d]) hAy.rb 5 _ rfl;by_cases h1:rkd=1
  case neg=>
   have t1:(rkd == 1)=false:=by simp [h1]
   have hJz:J (opL os ad os.length ++ L2) Y:=by rw [HL2.out,bB h1,List.append_nil];exact hJy
   have hAz:=hAy;have hKz:=hK;clear hJy hAy hK h1;gi_wp2
   refine ⟨fun _ _=>trivial,?_⟩;clear r0 r3 r4 r5 t1;have HAZ:=aH hAz;have HJZ:=aH hJz;have HKZ:=aH hKz;have x0:=cR (l:=[Value.slice (some ⟨sb,so,none⟩) x.stmts.length c1,.int .i64 x.term.kind,.slice A2 x.term.targets.length c2,.slice A3 x.term.args.length c3,.int .i64 x.term.place.loc,.slice A4 x.term.place.proj.length c4,.string x.term.name]) hAz.xb 0 _ rfl;have x1:=cR (l:=[Value.slice (some ⟨sb,so,none⟩) x.stmts.length c1,.int .i64 x.term.kind,.slice A2 x.term.targets.length c2,.slice A3 x.term.args.length c3,.int .i64 x.term.place.loc,.slice A4 x.term.place.proj.length c4,.string x.term.name]) hAz.xb 1 _ rfl;have x2:=cR (l:=[Value.slice (some ⟨sb,so,none⟩) x.stmts.length c1,.int .i64 x.term.kind,.slice A2 x.term.targets.length c2,.slice A3 x.term.args.length c3,.int .i64 x.term.place.loc,.slice A4 x.term.place.proj.length c4,.string x.term.name]) hAz.xb 2 _ rfl;have x3:=cR (l:=[Value.slice (some ⟨sb,so,none⟩) x.stmts.length c1,.int .i64 x.term.kind,.slice A2 x.term.targets.length c2,.slice A3 x.term.args.length c3,.int .i64 x.term.place.loc,.slice A4 x.term.place.proj.length c4,.string x.term.name]) hAz.xb 3 _ rfl;have x4:=cR (l:=[Value.slice (some ⟨sb,so,none⟩) x.stmts.length c1,.int .i64 x.term.kind,.slice A2 x.term.targets.length c2,.slice A3 x.term.args.length c3,.int .i64 x.term.place.loc,.slice A4 x.term.place.proj.length c4,.string x.term.name]) hAz.xb 4 _ rfl;have x5:=cR (l:=[Value.slice (some ⟨sb,so,none⟩) x.stmts.length c1,.int .i64 x.term.kind,.slice A2 x.term.targets.length c2,.slice A3 x.term.args.length c3,.int .i64 x.term.place.loc,.slice A4 x.term.place.proj.length c4,.string x.term.name]) hAz.xb 5 _ rfl;have x6:=cR (l:=[Value.slice (some ⟨sb,so,none⟩) x.stmts.length c1,.int .i64 x.term.kind,.slice A2 x.term.targets.length c2,.slice A3 x.term.args.length c3,.int .i64 x.term.place.loc,.slice A4 x.term.place.proj.length c4,.string x.term.name]) hAz.xb 6 _ rfl;clear hAz hJz hKz;cases w1b
   case false=>
    have HE:Hid (L3=[]):=aH (by rw [HL3.out];rfl);gi_wp2_with ((refine ⟨trivial,?_⟩;gi_at_call 93;refine (callsIn_wide.2 (HWR.out _ HAZ.out.low)).mono ?_;rintro e' w6 ⟨rfl,hb6⟩;obtain ⟨Z2,hZ2⟩:∃Z2,w6.alloc (.cells #[.int .i64 wp.loc,.slice wA wp.proj.length wc] 36)=Z2:=⟨_,rfl⟩;have hb7:=alF w6 (.cells #[.int .i64 wp.loc,.slice wA wp.proj.length wc] 36);rw [hZ2] at hb7;have HB7:=aH (hb6.trans (hb7.mono hb6.size));clear hb6 hb7))
    refine ⟨by simp,.inl ⟨_,_,rfl,run_takeDeferred (w:=Z2) ((HB7.out.block _ (Array.getElem?_eq_some_iff.1 HKZ.out).1).trans HKZ.out),?_⟩⟩;exact ⟨_,results_none rfl _ _ _,⟨_,rfl⟩,.inl (by rw [HE.out,List.append_nil];exact HJ.out _ _ _ (HJ.out _ _ _ HJZ.out (Turn.of_below HB7.out)) (Turn.putObj _ ((HB7.out.block _ (Array.getElem?_eq_some_iff.1 HKZ.out).1).trans HKZ.out) hD0 rfl))⟩
   case true=>
    have HE:Hid (L3=[⟨⟨wp,true,false⟩,wA,wc⟩]):=aH (by rw [HL3.out];rfl);gi_wp2_with ((refine ⟨trivial,?_⟩;gi_at_call 93;refine (callsIn_wide.2 (HWR.out _ HAZ.out.low)).mono ?_;rintro e' w6 ⟨rfl,hb6⟩;obtain ⟨Z2,hZ2⟩:∃Z2,w6.alloc (.cells #[.int .i64 wp.loc,.slice wA wp.proj.length wc] 36)=Z2:=⟨_,rfl⟩;have hb7:=alF w6 (.cells #[.int .i64 wp.loc,.slice wA wp.proj.length wc] 36);obtain ⟨u0,u1⟩:=fO w6 (.int .i64 wp.loc) (.slice wA wp.proj.length wc) 36;rw [hZ2] at hb7 u0 u1;have HB7:=aH (hb6.trans (hb7.mono hb6.size));have HA7:=aH (HAZ.out.below HB7.out);have c7:=cR (l:=[.func (.yield l) #[] #[]]) HA7.out.yb 0 _ rfl;have HK7:=aH ((HB7.out.block _ (Array.getElem?_eq_some_iff.1 HKZ.out).1).trans HKZ.out);obtain ⟨fn,tmps,assign,body,hy,hR⟩:=HY.out (opL os ad (os).length ++ L2) ⟨⟨wp,true,false⟩,wA,wc⟩ [] Z2 (by rw [HE.out]) (HJ.out _ _ _ HJZ.out (Turn.of_below HB7.out));unfold encX at hy;simp only at hy;clear hb6 hb7))
    refine hR.mono ?_;clear hy hR;rintro e Z3 (⟨rfl,hJ3,hk3⟩ | ⟨rfl,hJx3,hk3⟩)
    ·have HK3:=aH (hk3.same _ _ hD0 HK7.out rfl);have HJ3:=aH hJ3;clear hJ3 hk3;gi_wp2
     refine ⟨by simp,.inl ⟨_,_,rfl,run_takeDeferred (w:=Z3) HK3.out,?_⟩⟩;exact ⟨_,results_none rfl _ _ _,⟨_,rfl⟩,.inl (by rw [HE.out];exact HJ.out _ _ _ HJ3.out (Turn.putObj _ HK3.out hD0 rfl))⟩
    ·have HK3:=aH (hk3.same _ _ hD0 HK7.out rfl);have HJ3:=aH hJx3;clear hJx3 hk3;gi_wp2
     refine ⟨by simp,.inl ⟨_,_,rfl,run_takeDeferred (w:=Z3) HK3.out,?_⟩⟩;exact ⟨_,results_none rfl _ _ _,⟨_,rfl⟩,.inr ⟨_,_,[],by rw [HE.out],HJX.out _ _ _ HJ3.out (Turn.putObj _ HK3.out hD0 rfl)⟩⟩
  case pos=>
   have HE2:Hid (L2=[⟨⟨⟨rl,rj⟩,rmu,true⟩,rA,rc⟩]):=aH (by rw [HL2.out,bD h1]);have c0:=cR (l:=[.func (.yield l) #[] #[]]) hAy.yb 0 _ rfl;subst h1;obtain ⟨fn,tmps,assign,body,hy,hR⟩:=HY.out (opL os ad os.length) ⟨⟨⟨rl,rj⟩,rmu,true⟩,rA,rc⟩ L3 Y (by rw [HE2.out];simp) hJy;have HAY:=aH hAy;have HKY:=aH hK;unfold encX at hy;simp only at hy;clear hJy hAy hK;gi_wp2
   refine hR.mono ?_;clear hy hR;rintro e Y3 (⟨rfl,hJ3,hk3⟩ | ⟨rfl,hJx3,hk3⟩)
   ·have hAz:=HAY.out.kb hk3 (fun k h=> .inl h);have hKz:=hk3.same _ _ hD0 HKY.out rfl;have hJz:J (opL os ad os.length ++ L2) Y3:=by rw [HE2.out];exact hJ3
    clear hJ3 hk3 r0 r3 r4 r5 c0;have HAZ:=aH hAz;have HJZ:=aH hJz;have HKZ:=aH hKz;have x0:=cR (l:=[Value.slice (some ⟨sb,so,none⟩) x.stmts.length c1,.int .i64 x.term.kind,.slice A2 x.term.targets.length c2,.slice A3 x.term.args.length c3,.int .i64 x.term.place.loc,.slice A4 x.term.place.proj.length c4,.string x.term.name]) hAz.xb 0 _ rfl;have x1:=cR (l:=[Value.slice (some ⟨sb,so,none⟩) x.stmts.length c1,.int .i64 x.term.kind,.slice A2 x.term.targets.length c2,.slice A3 x.term.args.length c3,.int .i64 x.term.place.loc,.slice A4 x.term.place.proj.length c4,.string x.term.name]) hAz.xb 1 _ rfl;have x2:=cR (l:=[Value.slice (some ⟨sb,so,none⟩) x.stmts.length c1,.int .i64 x.term.kind,.slice A2 x.term.targets.length c2,.slice A3 x.term.args.length c3,.int .i64 x.term.place.loc,.slice A4 x.term.place.proj.length c4,.string x.term.name]) hAz.xb 2 _ rfl;have x3:=cR (l:=[Value.slice (some ⟨sb,so,none⟩) x.stmts.length c1,.int .i64 x.term.kind,.slice A2 x.term.targets.length c2,.slice A3 x.term.args.length c3,.int .i64 x.term.place.loc,.slice A4 x.term.place.proj.length c4,.string x.term.name]) hAz.xb 3 _ rfl;have x4:=cR (l:=[Value.slice (some ⟨sb,so,none⟩) x.stmts.length c1,.int .i64 x.term.kind,.slice A2 x.term.targets.length c2,.slice A3 x.term.args.length c3,.int .i64 x.term.place.loc,.slice A4 x.term.place.proj.length c4,.string x.term.name]) hAz.xb 4 _ rfl;have x5:=cR (l:=[Value.slice (some ⟨sb,so,none⟩) x.stmts.length c1,.int .i64 x.term.kind,.slice A2 x.term.targets.length c2,.slice A3 x.term.args.length c3,.int .i64 x.term.place.loc,.slice A4 x.term.place.proj.length c4,.string x.term.name]) hAz.xb 5 _ rfl;have x6:=cR (l:=[Value.slice (some ⟨sb,so,none⟩) x.stmts.length c1,.int .i64 x.term.kind,.slice A2 x.term.targets.length c2,.slice A3 x.term.args.length c3,.int .i64 x.term.place.loc,.slice A4 x.term.place.proj.length c4,.string x.term.name]) hAz.xb 6 _ rfl;clear hAz hJz hKz;cases w1b
    case false=>
     have HE:Hid (L3=[]):=aH (by rw [HL3.out];rfl);gi_wp2_with ((refine ⟨trivial,?_⟩;gi_at_call 93;refine (callsIn_wide.2 (HWR.out _ HAZ.out.low)).mono ?_;rintro e' w6 ⟨rfl,hb6⟩;obtain ⟨Z2,hZ2⟩:∃Z2,w6.alloc (.cells #[.int .i64 wp.loc,.slice wA wp.proj.length wc] 36)=Z2:=⟨_,rfl⟩;have hb7:=alF w6 (.cells #[.int .i64 wp.loc,.slice wA wp.proj.length wc] 36);rw [hZ2] at hb7;have HB7:=aH (hb6.trans (hb7.mono hb6.size));clear hb6 hb7))
     refine ⟨by simp,.inl ⟨_,_,rfl,run_takeDeferred (w:=Z2) ((HB7.out.block _ (Array.getElem?_eq_some_iff.1 HKZ.out).1).trans HKZ.out),?_⟩⟩;exact ⟨_,results_none rfl _ _ _,⟨_,rfl⟩,.inl (by rw [HE.out,List.append_nil];exact HJ.out _ _ _ (HJ.out _ _ _ HJZ.out (Turn.of_below HB7.out)) (Turn.putObj _ ((HB7.out.block _ (Array.getElem?_eq_some_iff.1 HKZ.out).1).trans HKZ.out) hD0 rfl))⟩
    case true=>
     have HE:Hid (L3=[⟨⟨wp,true,false⟩,wA,wc⟩]):=aH (by rw [HL3.out];rfl);gi_wp2_with ((refine ⟨trivial,?_⟩;gi_at_call 93;refine (callsIn_wide.2 (HWR.out _ HAZ.out.low)).mono ?_;rintro e' w6 ⟨rfl,hb6⟩;obtain ⟨Z2,hZ2⟩:∃Z2,w6.alloc (.cells #[.int .i64 wp.loc,.slice wA wp.proj.length wc] 36)=Z2:=⟨_,rfl⟩;have hb7:=alF w6 (.cells #[.int .i64 wp.loc,.slice wA wp.proj.length wc] 36);obtain ⟨u0,u1⟩:=fO w6 (.int .i64 wp.loc) (.slice wA wp.proj.length wc) 36;rw [hZ2] at hb7 u0 u1;have HB7:=aH (hb6.trans (hb7.mono hb6.size));have HA7:=aH (HAZ.out.below HB7.out);have c7:=cR (l:=[.func (.yield l) #[] #[]]) HA7.out.yb 0 _ rfl;have HK7:=aH ((HB7.out.block _ (Array.getElem?_eq_some_iff.1 HKZ.out).1).trans HKZ.out);obtain ⟨fn,tmps,assign,body,hy,hR⟩:=HY.out (opL os ad (os).length ++ L2) ⟨⟨wp,true,false⟩,wA,wc⟩ [] Z2 (by rw [HE.out]) (HJ.out _ _ _ HJZ.out (Turn.of_below HB7.out));unfold encX at hy;simp only at hy;clear hb6 hb7))
     refine hR.mono ?_;clear hy hR;rintro e Z3 (⟨rfl,hJ3,hk3⟩ | ⟨rfl,hJx3,hk3⟩)
     ·have HK3:=aH (hk3.same _ _ hD0 HK7.out rfl);have HJ3:=aH hJ3;clear hJ3 hk3;gi_wp2
      refine ⟨by simp,.inl ⟨_,_,rfl,run_takeDeferred (w:=Z3) HK3.out,?_⟩⟩;exact ⟨_,results_none rfl _ _ _,⟨_,rfl⟩,.inl (by rw [HE.out];exact HJ.out _ _ _ HJ3.out (Turn.putObj _ HK3.out hD0 rfl))⟩
     ·have HK3:=aH (hk3.same _ _ hD0 HK7.out rfl);have HJ3:=aH hJx3;clear hJx3 hk3;gi_wp2
      refine ⟨by simp,.inl ⟨_,_,rfl,run_takeDeferred (w:=Z3) HK3.out,?_⟩⟩;exact ⟨_,results_none rfl _ _ _,⟨_,rfl⟩,.inr ⟨_,_,[],by rw [HE.out],HJX.out _ _ _ HJ3.out (Turn.putObj _ HK3.out hD0 rfl)⟩⟩
   ·have HK3:=aH (hk3.same _ _ hD0 HKY.out rfl);have HJ3:=aH hJx3;clear hJx3 hk3 r0 r3 r4 r5 c0;gi_wp2
    refine ⟨by simp,.inl ⟨_,_,rfl,run_takeDeferred (w:=Y3) HK3.out,?_⟩⟩;exact ⟨_,results_none rfl _ _ _,⟨_,rfl⟩,.inr ⟨_,_,L3,by rw [HE2.out];simp,HJX.out _ _ _ HJ3.out (Turn.putObj _ HK3.out hD0 rfl)⟩⟩
theorem xFE (n:Nat) (hn:3<=n) (b:Bdy) (bh:BH) (p:Int) (bx bp:Nat) (w0 w:World) (hw:Below w0.heap.size w0 w) (H:BdAt w0 b bh) (hx:∀i v,(bdC b bh)[i]?=some v->w.cell? ⟨bx,i,none⟩=some v) (hp:w.cell? ⟨bp,0,none⟩=some (.int .i64 p)) (hc:cntB b.blocks<=1000000000000) (hpr : -9223372036854775808<=p/\p<=9223372036854775807)
 (i k:Nat) (x:Blk) (hloc:locB b.blocks p=some (i,k)) (hbx:b.blocks[i]?=some x) (hk:k=x.stmts.length):
 accQ n b p bx bp w0 w:=by
 have hi:=(List.getElem?_eq_some_iff.1 hbx).1;have hi2:(i:Int)<(b.blocks.length:Int):=by omega
 have hbl:=H.blk.le;have hbb:=H.blk.big;obtain ⟨g,o,hA,hg,hxx⟩:=H.blk.sl.at_ hi;have hxe:b.blocks[i]=x:=by rw [bF hi] at hbx;exact Option.some.inj hbx
 rw [hxe] at hxx;obtain ⟨A1,c1,A2,c2,A3,c3,A4,c4,q0,q1,q2,q3,q4,q5,q6,hs1,-,hs3,hs4⟩:=eX hxx;obtain ⟨a0,hsta⟩:=uB hs1 k;have hl1:=hs1.le;have hl1b:=hs1.big;have HWS:=aH (tH hs1 hs4 hsta);have HWR:=aH (fun (X:World) (hb:Below w0.heap.size w0 X)=>mY x A1 A2 A3 A4 c1 c2 c3 c4 k X (hs1.keep RSt.keeps hb) (by omega) a0 (hsta.keep hb));unfold bkL wrV at HWR;subst hk;have hk':=bA x.stmts.length;have hdk:decide ((x.stmts.length:Int)<(x.stmts.length:Int))=false:=by simp
 obtain ⟨rl,hrl⟩:∃rl:Int,rl=0:=⟨_,rfl⟩;have hsr:Slc 2 RPj w0 none 0 ([]:List Pj):=⟨Sl.nil,by simp,by omega⟩;have hsa:=hs3;have HAG:Hid (acG x x.stmts.length=rdL x.term.args ++ ifA ((0:Int)=1) ⟨⟨0,[]⟩,false,true⟩ ++ ifA ((wrP x x.stmts.length).2.1=true) ⟨(wrP x x.stmts.length).1,true,false⟩):=aH (by unfold acG iY acBor;rw [cG (bA _)];simp [ifA]);obtain ⟨ad,hads⟩:=ad_of hsa;have hal:=hsa.le;have hab:=hsa.big;obtain ⟨⟨wp,w1b,w2b⟩,hq⟩:∃q,wrP x x.stmts.length=q:=⟨_,rfl⟩;obtain ⟨⟨wA,wc⟩,hwa⟩:∃q,wrA x x.stmts.length a0 (A4,c4)=q:=⟨_,rfl⟩;rw [hq,hwa] at HWR HWS;rw [hq] at HAG;simp only at HWR HWS HAG;obtain ⟨L2,hL2⟩:∃L2:List Ax,L2=if (0:Int)=1 then [⟨⟨⟨0,[]⟩,false,true⟩,none,0⟩] else []:=⟨_,rfl⟩
 obtain ⟨L3,hL3⟩:∃L3:List Ax,L3=if w1b=true then [⟨⟨wp,true,false⟩,wA,wc⟩] else []:=⟨_,rfl⟩
 refine ⟨opL x.term.args ad (x.term.args).length ++ L2 ++ L3,?_,?_,?_⟩
 ·rw [xU hloc hbx,HAG.out,bV,bV,qA _ _ _ (bA _),cB];have t2:L2.map (·.a)=ifA ((0:Int)=1) ⟨⟨0,[]⟩,false,true⟩:=by rw [hL2];unfold ifA;split <;> rfl
  have t3:L3.map (·.a)=ifA (w1b=true) ⟨wp,true,false⟩:=by rw [hL3];unfold ifA;split <;> rfl
  rw [t2,t3]
 ·intro e he;rw [cL,cL] at he;rcases he with (he | he) | he
  ·exact pZ hads _ (bA _) e he
  ·rw [hL2] at he;split at he
   ·rw [bU] at he;subst he;exact hsr
   ·cases he
  ·rw [hL3] at he;split at he
   ·rw [bU] at he;subst he;exact HWS.out
   ·cases he
 intro l J Jx W hW hJ hJx hY hj0;have hn1:1<=n:=by omega
 have hW0s:=hw.size;have hWs:=hW.size;have HL:=aH (fun (X:World) (hb:Below w0.heap.size w0 X)=>lR b bh p X (H.keep hb) hc hpr);rw [hloc] at HL;unfold lcV at HL;simp only at HL;have HX:=aH (fun i v h=>cQ hW (hx i v h));have gp:=cQ hW hp;have HJ:=aH hJ;have HJX:=aH hJx;have HY:=aH hY;have H0:=aH hj0;have HBW:=aH (hw.trans (hW.mono hw.size));unfold bdC at HX HL;obtain ⟨x0,x1,x2,x3,x4,x5,x6⟩:=aU HX.out;have HAE:=aH hA;have HADS:=aH hads;have HL2:=aH hL2;have HL3:=aH hL3;have HBXL:Hid (bx<W.heap.size):=aH (cF _ _ x0);obtain ⟨W0,hW0⟩:∃W0,W.alloc (.cells #[.func (.yield l) #[] #[]] 209)=W0:=⟨_,rfl⟩;have hb0:=alF W (.cells #[.func (.yield l) #[] #[]] 209);have hy0:=heap_alloc_new W (.cells #[.func (.yield l) #[] #[]] 209);have hz0:W0.heap.size=W.heap.size+1:=by rw [<- hW0];simp
 rw [hW0] at hb0 hy0;have HY0:=aH hy0;have HB0:=aH (HBW.out.trans (hb0.mono HBW.out.size));have HZ0:=aH hz0;have HBB0:=aH hb0;replace x0:=cQ hb0 x0;replace x1:=cQ hb0 x1;replace x2:=cQ hb0 x2;replace x3:=cQ hb0 x3;replace x4:=cQ hb0 x4;replace x5:=cQ hb0 x5;replace x6:=cQ hb0 x6;replace gp:=cQ hb0 gp;have HBO:=aH (fun (X:World) (hX:Below W0.heap.size W0 X)=>(aH (HB0.out.trans (hX.mono HB0.out.size)):Hid (Below w0.heap.size w0 X)));clear HX hx hp hY hj0 H hW hA hads hbx hloc hxx hxe hs1 hs3 hs4 hsa hsr hsta hwa hq hL2 hL3 hb0 hy0 hz0 hJ hJx HAG HWS hrl;refine callsIn_of_wp_marks Tryz.func138 rfl trivial ?_ rfl;simp only [Tryz.ntmps138,List.size_toArray,bN,bQ,Nat.reduceAdd,Nat.reduceSub,Array.replicate_succ,Array.replicate_zero,List.push_toArray,List.append_toArray,List.nil_append,List.cons_append]
 gi_wp2_with (first
  | (refine ⟨trivial,?_⟩;gi_at_call 139;refine (callsIn_wide.2 (oM _ _ _ _)).mono ?_;rintro e' w5 ⟨rfl,rfl⟩)
  | (refine ⟨trivial,?_⟩;gi_at_call 92;go_loud (refine (callsIn_wide.2 (HL.out _ HB0.out)).mono ?_;rintro e' w1 ⟨rfl,hb1⟩;replace x6:=cQ hb1 x6;rw [HAE.out] at x6;have HB1:=aH (HB0.out.trans (hb1.mono HB0.out.size));have HBB1:=aH hb1;replace q0:=cQ HB1.out q0;replace q1:=cQ HB1.out q1;replace q2:=cQ HB1.out q2;replace q3:=cQ HB1.out q3;replace q4:=cQ HB1.out q4;replace q5:=cQ HB1.out q5;replace q6:=cQ HB1.out q6;obtain ⟨W2,hW2⟩:∃W2,w1.alloc (.cells ([Value.slice A1 x.stmts.length c1,.int .i64 x.term.kind,.slice A2 x.term.targets.length c2,.slice A3 x.term.args.length c3,.int .i64 x.term.place.loc,.slice A4 x.term.place.proj.length c4,.string x.term.name]).toArray 116)=W2:=⟨_,rfl⟩;have hb2:=alF w1 (.cells ([Value.slice A1 x.stmts.length c1,.int .i64 x.term.kind,.slice A2 x.term.targets.length c2,.slice A3 x.term.args.length c3,.int .i64 x.term.place.loc,.slice A4 x.term.place.proj.length c4,.string x.term.name]).toArray 116);have hh2:=heap_alloc_new w1 (.cells ([Value.slice A1 x.stmts.length c1,.int .i64 x.term.kind,.slice A2 x.term.targets.length c2,.slice A3 x.term.args.length c3,.int .i64 x.term.place.loc,.slice A4 x.term.place.proj.length c4,.string x.term.name]).toArray 116);have hz2:W2.heap.size=w1.heap.size+1:=(by rw [<- hW2];simp);rw [hW2] at hb2 hh2;have yy:=cR (l:=[Value.slice A1 x.stmts.length c1,.int .i64 x.term.kind,.slice A2 x.term.targets.length c2,.slice A3 x.term.args.length c3,.int .i64 x.term.place.loc,.slice A4 x.term.place.proj.length c4,.string x.term.name]) hh2;have y0:=yy 0 _ rfl;have y3:=yy 3 _ rfl;clear yy;obtain ⟨W3,hW3⟩:∃W3,W2.alloc (.cells #[.int .i64 0,.int .i64 0,.int .i64 0,.bool false,.int .i64 0,.slice none 0 0,.slice none 0 0] 109)=W3:=⟨_,rfl⟩;have hb3:=alF W2 (.cells #[.int .i64 0,.int .i64 0,.int .i64 0,.bool false,.int .i64 0,.slice none 0 0,.slice none 0 0] 109);have hh3:=heap_alloc_new W2 (.cells #[.int .i64 0,.int .i64 0,.int .i64 0,.bool false,.int .i64 0,.slice none 0 0,.slice none 0 0] 109);have hz3:W3.heap.size=W2.heap.size+1:=(by rw [<- hW3];simp);rw [hW3] at hb3 hh3;have zz:=cR (l:=[.int .i64 0,.int .i64 0,.int .i64 0,.bool false,.int .i64 0,.slice none 0 0,.slice none 0 0]) hh3;have z0:=zz 0 _ rfl;have z1:=zz 1 _ rfl;have z2:=zz 2 _ rfl;have z3:=zz 3 _ rfl;have z4:=zz 4 _ rfl;have z5:=zz 5 _ rfl;have z6:=zz 6 _ rfl;have zf:∀i,W3.frozen? ⟨W2.heap.size,i,none⟩=false:=(fun i=>by simp [World.frozen?,hh3]);clear zz;have HB2:=aH hb2;have HH2:=aH hh2;have HZ2:=aH hz2;have HB3:=aH hb3;have HH3:=aH hh3;have HZ3:=aH hz3;replace y0:=cQ hb3 y0;clear hb1 hb2 hh2 hz2 hb3 hh3 hz3 x0 x1 x2 x3 x4 x5)))
 have hr4:=HH3.out;have ho4:∀k,k≠W2.heap.size->W3.heap[k]?=W3.heap[k]?:=fun k _=>rfl
 have hbl4:∀n₀ w,n₀ <= W2.heap.size->Below n₀ w W3->Below n₀ w W3:=fun _ _ _ h=>h
 have hsz4:W3.heap.size=W3.heap.size:=rfl;have hz3:=HZ3.out;have hz2:=HZ2.out;have hz0:=HZ0.out;have hzb:=HBB1.out.size;generalize hW5:W3.alloc (.cells #[.slice A3 (x.term.args).length c3] 107)=W5;have hb5:=alF W3 (.cells #[.slice A3 (x.term.args).length c3] 107);have ha5:=heap_alloc_new W3 (.cells #[.slice A3 (x.term.args).length c3] 107);have hz5:W5.heap.size=W3.heap.size+1:=by rw [<- hW5];simp
 rw [hW5] at hb5 ha5;rw [hsz4] at ha5 hz5;have blk:∀j o',j<w1.heap.size->w1.heap[j]?=some o'->W5.heap[j]?=some o':=fun j o' hj h=>(hb5.block _ (by rw [hsz4];omega)).trans ((ho4 _ (by omega)).trans ((HB3.out.block _ (by omega)).trans ((HB2.out.block _ hj).trans h)))
 have hlow5:Below w0.heap.size w0 W5:=(hbl4 _ _ (by have:=HB1.out.size;omega) ((HB1.out.trans (HB2.out.mono HB1.out.size)).trans (HB3.out.mono (by have:=HB1.out.size;omega)))).trans (hb5.mono (by have:=HB1.out.size;rw [hsz4];omega));have hW5s:Below W.heap.size W W5:=(hbl4 _ _ (by omega) (((HBB0.out.trans (HBB1.out.mono (by omega))).trans (HB2.out.mono (by omega))).trans (HB3.out.mono (by omega)))).trans (hb5.mono (by rw [hsz4];omega));have hAW:AcW w0 W.heap.size W.heap.size w1.heap.size W2.heap.size W3.heap.size #[.func (.yield l) #[] #[]] ([Value.slice A1 x.stmts.length c1,.int .i64 x.term.kind,.slice A2 x.term.targets.length c2,.slice A3 x.term.args.length c3,.int .i64 x.term.place.loc,.slice A4 x.term.place.proj.length c4,.string x.term.name]).toArray #[.int .i64 0,.int .i64 0,.int .i64 0,.bool false,.int .i64 0,.slice none 0 0,.slice none 0 0] #[.slice A3 x.term.args.length c3] W5:=⟨blk _ _ (by omega) ((HBB1.out.block _ (by omega)).trans HY0.out),(hb5.block _ (by rw [hsz4];omega)).trans ((ho4 _ (by omega)).trans ((HB3.out.block _ (by omega)).trans HH2.out)),(hb5.block _ (by rw [hsz4];omega)).trans hr4,ha5,hlow5,by omega,by omega⟩;have hJ5:J [] W5:=HJ.out _ _ _ H0.out (Turn.of_below hW5s);have hseq:=(oK TA (n - 1) (by omega) x.term.args A3 c3 ad W3.heap.size w0 W5 hlow5 HADS.out ⟨hal,hab⟩ (cR (l:=[.slice A3 (x.term.args).length c3]) ha5 0 _ rfl)).k;have HZ:Hid (W.heap.size<W5.heap.size/\w1.heap.size<W5.heap.size/\W2.heap.size<W5.heap.size/\W3.heap.size<W5.heap.size/\w0.heap.size<=W.heap.size):=aH (by omega);have HYS:=aH hn;clear hb5 ha5 hz5 hW5 blk hlow5 hW5s hr4 ho4 hbl4 hsz4 HH3 HB3 HZ3 HB2 HH2 HZ2 HBB1 HB1 HB0 HZ0 HY0 HBB0 HADS hz3 hz2 hz0 hzb z0 z1 z2 z3 z4 z5 z6 zf y0 y3 x6 gp q0 q1 q2 q3 q4 q5 q6 HL HBO HAE H0 HBXL;have hW5lt:W.heap.size<=W5.heap.size:=by have:=HZ.out;omega
 refine gO rfl (by omega) (gf:=166) (lb:= #[.pointer (some ⟨W3.heap.size,0,none⟩)]) rfl trivial (enters_of Tryz.func166 (by kernel_rfl) rfl)
  hseq (aZ _ _) (by have:=HZ.out;rintro k (h | rfl) <;> omega) (fun _=>rfl)
  (fun pre X=>J pre X/\AcW w0 W.heap.size W.heap.size w1.heap.size W2.heap.size W3.heap.size #[.func (.yield l) #[] #[]] ([Value.slice A1 x.stmts.length c1,.int .i64 x.term.kind,.slice A2 x.term.targets.length c2,.slice A3 x.term.args.length c3,.int .i64 x.term.place.loc,.slice A4 x.term.place.proj.length c4,.string x.term.name]).toArray #[.int .i64 0,.int .i64 0,.int .i64 0,.bool false,.int .i64 0,.slice none 0 0,.slice none 0 0] #[.slice A3 x.term.args.length c3] X)
  (fun c pre X=>c = .ret/\Jx pre X)
  (fun s A B hs ht=>⟨HJ.out _ _ _ hs.1 (ht.mono hW5lt),hs.2.turn ht (by have:=HZ.out;omega)⟩) (fun c s A B hs ht=>⟨hs.1,HJX.out _ _ _ hs.2 (ht.mono hW5lt)⟩)
  ⟨hJ5,hAW⟩ ?round ?done ?stop
 case round=>
  rintro lr pre ⟨⟨⟨pl,pj⟩,wr,dp⟩,eA,ec⟩ post Y hL hlr ⟨rr,hr⟩ hWs ⟨hJy,hAy⟩;simp only [encX,List.zip_toArray,List.zip_cons_cons];gi_wp2
  refine ⟨(Kb.refl _ _ _ _).alloc _,fun Y2 hrec=>?_⟩;obtain ⟨YL,hYL⟩:∃YL,Y.alloc (.cells #[.int .i64 pl,.slice eA pj.length ec,.bool wr,.bool dp] 165)=YL:=⟨_,rfl⟩;have hal1:=alF Y (.cells #[.int .i64 pl,.slice eA pj.length ec,.bool wr,.bool dp] 165);have s:=cT Y [.int .i64 pl,.slice eA pj.length ec,.bool wr,.bool dp] 165;rw [hYL] at hal1 s hrec;have s0:=hrec.cell (s 0 _ rfl);have s1:=hrec.cell (s 1 _ rfl);have s2:=hrec.cell (s 2 _ rfl);have s3:=hrec.cell (s 3 _ rfl);have hlr2:W.heap.size<=lr:=cA hW5lt hlr;have hA2:=(hAy.below hal1).rec_ hrec hlr2;have hJ2:=HJ.out _ _ _ hJy ((Turn.of_below hal1).trans (hrec.turn hlr2) |>.mono (bA _));have c0:=cR (l:=[.func (.yield l) #[] #[]]) hA2.yb 0 _ rfl;obtain ⟨fn,tmps,assign,body,hy,hR⟩:=HY.out pre ⟨⟨⟨pl,pj⟩,wr,dp⟩,eA,ec⟩ (post ++ L2 ++ L3) Y2 (by rw [hL];simp) hJ2;have HA2:=aH hA2;unfold encX at hy;simp only at hy;clear hal1 s hA2 hJ2 hAy hJy hrec hYL hr hseq;gi_wp2
  refine ⟨(fun h=>nomatch h),RoundIn.mono (iV hR) ?_⟩;clear hy hR;rintro e Y3 (⟨rfl,hJ3,hk3⟩ | ⟨rfl,hJx3,hk3⟩)
  ·have HIN:=aH (HA2.out.inner hk3 (fun k h=> .inl h) hW5lt);have HA3:=aH (HA2.out.kb hk3 (fun k h=> .inl h));have HJ3:=aH hJ3;clear hJ3 hk3;gi_wp2
   exact ⟨HIN.out,HJ3.out,HA3.out⟩
  ·have HIN:=aH (HA2.out.inner hk3 (fun k h=> .inl h) hW5lt);have HJ3:=aH hJx3;clear hJx3 hk3;gi_wp2
   exact ⟨HIN.out,rfl,HJ3.out⟩
 case stop=>
  rintro D c pre x' post Y hD hL ⟨rfl,hx'⟩ hK;have HXX:=aH hx';clear hx' hseq hJ5 hAW;gi_wp2
  refine ⟨by simp,.inl ⟨_,_,rfl,run_takeDeferred (w:=Y) hK,?_⟩⟩;exact ⟨_,results_none rfl _ _ _,⟨_,rfl⟩,.inr ⟨pre,x',post ++ L2 ++ L3,by rw [hL];simp,HJX.out _ _ _ HXX.out (Turn.putObj _ hK (cA hW5lt hD) rfl)⟩⟩
 case done=>
  rintro D Y hD ⟨hJy,hAy⟩ hK;have hD0:W.heap.size<=D:=cA hW5lt hD;clear hseq hJ5 hAW hD;have r0:=cR (l:=[.int .i64 0,.int .i64 0,.int .i64 0,.bool false,.int .i64 0,.slice none 0 0,.slice none 0 0]) hAy.rb 0 _ rfl;have hJz:J (opL x.term.args ad x.term.args.length ++ L2) Y:=by rw [HL2.out,bB (by decide),List.append_nil];exact hJy
  have hAz:=hAy;have hKz:=hK;clear hJy hAy hK;gi_wp2
  refine ⟨fun _ _=>trivial,?_⟩;clear r0;have HAZ:=aH hAz;have HJZ:=aH hJz;have HKZ:=aH hKz;have x0:=cR (l:=[Value.slice A1 x.stmts.length c1,.int .i64 x.term.kind,.slice A2 x.term.targets.length c2,.slice A3 x.term.args.length c3,.int .i64 x.term.place.loc,.slice A4 x.term.place.proj.length c4,.string x.term.name]) hAz.xb 0 _ rfl;have x1:=cR (l:=[Value.slice A1 x.stmts.length c1,.int .i64 x.term.kind,.slice A2 x.term.targets.length c2,.slice A3 x.term.args.length c3,.int .i64 x.term.place.loc,.slice A4 x.term.place.proj.length c4,.string x.term.name]) hAz.xb 1 _ rfl;have x2:=cR (l:=[Value.slice A1 x.stmts.length c1,.int .i64 x.term.kind,.slice A2 x.term.targets.length c2,.slice A3 x.term.args.length c3,.int .i64 x.term.place.loc,.slice A4 x.term.place.proj.length c4,.string x.term.name]) hAz.xb 2 _ rfl;have x3:=cR (l:=[Value.slice A1 x.stmts.length c1,.int .i64 x.term.kind,.slice A2 x.term.targets.length c2,.slice A3 x.term.args.length c3,.int .i64 x.term.place.loc,.slice A4 x.term.place.proj.length c4,.string x.term.name]) hAz.xb 3 _ rfl;have x4:=cR (l:=[Value.slice A1 x.stmts.length c1,.int .i64 x.term.kind,.slice A2 x.term.targets.length c2,.slice A3 x.term.args.length c3,.int .i64 x.term.place.loc,.slice A4 x.term.place.proj.length c4,.string x.term.name]) hAz.xb 4 _ rfl;have x5:=cR (l:=[Value.slice A1 x.stmts.length c1,.int .i64 x.term.kind,.slice A2 x.term.targets.length c2,.slice A3 x.term.args.length c3,.int .i64 x.term.place.loc,.slice A4 x.term.place.proj.length c4,.string x.term.name]) hAz.xb 5 _ rfl;have x6:=cR (l:=[Value.slice A1 x.stmts.length c1,.int .i64 x.term.kind,.slice A2 x.term.targets.length c2,.slice A3 x.term.args.length c3,.int .i64 x.term.place.loc,.slice A4 x.term.place.proj.length c4,.string x.term.name]) hAz.xb 6 _ rfl;clear hAz hJz hKz;cases w1b
  case false=>
   have HE:Hid (L3=[]):=aH (by rw [HL3.out];rfl);gi_wp2_with ((refine ⟨trivial,?_⟩;gi_at_call 93;refine (callsIn_wide.2 (HWR.out _ HAZ.out.low)).mono ?_;rintro e' w6 ⟨rfl,hb6⟩;obtain ⟨Z2,hZ2⟩:∃Z2,w6.alloc (.cells #[.int .i64 wp.loc,.slice wA wp.proj.length wc] 36)=Z2:=⟨_,rfl⟩;have hb7:=alF w6 (.cells #[.int .i64 wp.loc,.slice wA wp.proj.length wc] 36);rw [hZ2] at hb7;have HB7:=aH (hb6.trans (hb7.mono hb6.size));clear hb6 hb7))
   refine ⟨by simp,.inl ⟨_,_,rfl,run_takeDeferred (w:=Z2) ((HB7.out.block _ (Array.getElem?_eq_some_iff.1 HKZ.out).1).trans HKZ.out),?_⟩⟩;exact ⟨_,results_none rfl _ _ _,⟨_,rfl⟩,.inl (by rw [HE.out,List.append_nil];exact HJ.out _ _ _ (HJ.out _ _ _ HJZ.out (Turn.of_below HB7.out)) (Turn.putObj _ ((HB7.out.block _ (Array.getElem?_eq_some_iff.1 HKZ.out).1).trans HKZ.out) hD0 rfl))⟩
  case true=>
   have HE:Hid (L3=[⟨⟨wp,true,false⟩,wA,wc⟩]):=aH (by rw [HL3.out];rfl);gi_wp2_with ((refine ⟨trivial,?_⟩;gi_at_call 93;refine (callsIn_wide.2 (HWR.out _ HAZ.out.low)).mono ?_;rintro e' w6 ⟨rfl,hb6⟩;obtain ⟨Z2,hZ2⟩:∃Z2,w6.alloc (.cells #[.int .i64 wp.loc,.slice wA wp.proj.length wc] 36)=Z2:=⟨_,rfl⟩;have hb7:=alF w6 (.cells #[.int .i64 wp.loc,.slice wA wp.proj.length wc] 36);obtain ⟨u0,u1⟩:=fO w6 (.int .i64 wp.loc) (.slice wA wp.proj.length wc) 36;rw [hZ2] at hb7 u0 u1;have HB7:=aH (hb6.trans (hb7.mono hb6.size));have HA7:=aH (HAZ.out.below HB7.out);have c7:=cR (l:=[.func (.yield l) #[] #[]]) HA7.out.yb 0 _ rfl;have HK7:=aH ((HB7.out.block _ (Array.getElem?_eq_some_iff.1 HKZ.out).1).trans HKZ.out);obtain ⟨fn,tmps,assign,body,hy,hR⟩:=HY.out (opL x.term.args ad (x.term.args).length ++ L2) ⟨⟨wp,true,false⟩,wA,wc⟩ [] Z2 (by rw [HE.out]) (HJ.out _ _ _ HJZ.out (Turn.of_below HB7.out));unfold encX at hy;simp only at hy;clear hb6 hb7))
   refine hR.mono ?_;clear hy hR;rintro e Z3 (⟨rfl,hJ3,hk3⟩ | ⟨rfl,hJx3,hk3⟩)
   ·have HK3:=aH (hk3.same _ _ hD0 HK7.out rfl);have HJ3:=aH hJ3;clear hJ3 hk3;gi_wp2
    refine ⟨by simp,.inl ⟨_,_,rfl,run_takeDeferred (w:=Z3) HK3.out,?_⟩⟩;exact ⟨_,results_none rfl _ _ _,⟨_,rfl⟩,.inl (by rw [HE.out];exact HJ.out _ _ _ HJ3.out (Turn.putObj _ HK3.out hD0 rfl))⟩
   ·have HK3:=aH (hk3.same _ _ hD0 HK7.out rfl);have HJ3:=aH hJx3;clear hJx3 hk3;gi_wp2
    refine ⟨by simp,.inl ⟨_,_,rfl,run_takeDeferred (w:=Z3) HK3.out,?_⟩⟩;exact ⟨_,results_none rfl _ _ _,⟨_,rfl⟩,.inr ⟨_,_,[],by rw [HE.out],HJX.out _ _ _ HJ3.out (Turn.putObj _ HK3.out hD0 rfl)⟩⟩
end
section
open Go Go.RowKit Go.Shelf
attribute [local go_sem] Oper.semAt_some
attribute [local irreducible] Calls
theorem xDR (n:Nat) (hn:3<=n) (b:Bdy) (bh:BH) (p:Int) (bx bp:Nat) (w0 w:World) (hw:Below w0.heap.size w0 w) (H:BdAt w0 b bh) (hx:∀i v,(bdC b bh)[i]?=some v->w.cell? ⟨bx,i,none⟩=some v) (hp:w.cell? ⟨bp,0,none⟩=some (.int .i64 p)) (hc:cntB b.blocks<=1000000000000) (hpr : -9223372036854775808<=p/\p<=9223372036854775807):accQ n b p bx bp w0 w:=by
 cases hloc:locB b.blocks p with
 | none=>exact xBD n (by omega) b bh p bx bp w0 w hw H hx hp hc hpr hloc
 | some q=>
   obtain ⟨i,k⟩:=q;obtain ⟨x,hbx,hk,-⟩:=dP.1 hloc;rcases Nat.lt_or_eq_of_le hk with hk | hk
   ·exact xFD n hn b bh p bx bp w0 w hw H hx hp hc hpr i k x hloc hbx hk
   ·exact xFE n hn b bh p bx bp w0 w hw H hx hp hc hpr i k x hloc hbx hk
theorem wG (b:Bdy) (bh:BH) (p:Int) (l:Ln) (B:Option Addr) (d:Nat) (w:World) (H:BdAt w b bh) (hl:Slc 2 RPj w B d l.place.proj) (hc:cntB b.blocks<=1000000000000) (hpr : -9223372036854775808<=p/\p<=9223372036854775807):
 Calls Tryz.prog 66 #[.agg (bdC b bh).toArray,.int .i64 p,.agg (lnC l B d).toArray] w fun e' w'=>e' = .returned (.bool ((acPt b.blocks p).any (fun a=>cfl a l)))/\Below w.heap.size w w':=by
 have HAC:=aH (fun (W:World)=>xDS b bh p W);have HH:=aH H;have HS:=aH hl;have hle:=hl.le;have hbg:=hl.big;obtain ⟨lr,lp,mu,ll,lj⟩:=l;try simp only at *
 obtain ⟨R,hR⟩:∃R,((acPt b.blocks p).any (fun a=>cfl a ⟨lr,lp,mu,ll,lj⟩))=R:=⟨_,rfl⟩;rw [hR];have HR:=aH hR;have HCN:=aH hc;have HPR:=aH hpr;obtain ⟨W0,hW0⟩:∃W0,((w.alloc (.cells ([Value.string b.name,.slice bh.A1 b.regions.length bh.c1,.slice bh.A2 b.outl.length bh.c2,.slice bh.A3 b.types.length bh.c3,.slice bh.A4 b.locals.length bh.c4,.int .i64 b.args,.slice bh.A5 b.blocks.length bh.c5]).toArray 59)).alloc (.cells ([Value.int .i64 lr,.int .i64 lp,.bool mu,.int .i64 ll,.slice B lj.length d]).toArray 38)).alloc (.cells #[.bool false] 4)=W0:=⟨_,rfl⟩;have hb0:Below w.heap.size w W0:=by rw [<- hW0];exact aJ
 have hz0:W0.heap.size=w.heap.size+1+1+1:=by rw [<- hW0];simp
 have h0:W0.heap[w.heap.size]?=some (.cells ((bdH b bh [])).toArray 59 (0,0)):=by
  rw [<- hW0,Below.heap_alloc _ _ _ (by simp only [bK];omega),Below.heap_alloc _ _ _ (by simp only [bK];omega)];exact heap_alloc_new w _
 have h1:W0.heap[w.heap.size+1]?=some (.cells ([Value.int .i64 lr,.int .i64 lp,.bool mu,.int .i64 ll,.slice B lj.length d]).toArray 38 (0,0)):=by
  rw [<- hW0,Below.heap_alloc _ _ _ (by simp only [bK];omega)];have:=heap_alloc_new (w.alloc (.cells ([Value.string b.name,.slice bh.A1 b.regions.length bh.c1,.slice bh.A2 b.outl.length bh.c2,.slice bh.A3 b.types.length bh.c3,.slice bh.A4 b.locals.length bh.c4,.int .i64 b.args,.slice bh.A5 b.blocks.length bh.c5]).toArray 59)) (.cells ([Value.int .i64 lr,.int .i64 lp,.bool mu,.int .i64 ll,.slice B lj.length d]).toArray 38);rwa [bK] at this
 have h2:W0.heap[w.heap.size+1+1]?=some (.cells #[.bool false] 4 (0,0)):=by
  rw [<- hW0];have:=heap_alloc_new ((w.alloc (.cells ([Value.string b.name,.slice bh.A1 b.regions.length bh.c1,.slice bh.A2 b.outl.length bh.c2,.slice bh.A3 b.types.length bh.c3,.slice bh.A4 b.locals.length bh.c4,.int .i64 b.args,.slice bh.A5 b.blocks.length bh.c5]).toArray 59)).alloc (.cells ([Value.int .i64 lr,.int .i64 lp,.bool mu,.int .i64 ll,.slice B lj.length d]).toArray 38)) (.cells #[.bool false] 4);rwa [bK,bK] at this
 have x0:=cR (l:=[Value.string b.name,.slice bh.A1 b.regions.length bh.c1,.slice bh.A2 b.outl.length bh.c2,.slice bh.A3 b.types.length bh.c3,.slice bh.A4 b.locals.length bh.c4,.int .i64 b.args,.slice bh.A5 b.blocks.length bh.c5]) h0 0 _ rfl;have x1:=cR (l:=[Value.string b.name,.slice bh.A1 b.regions.length bh.c1,.slice bh.A2 b.outl.length bh.c2,.slice bh.A3 b.types.length bh.c3,.slice bh.A4 b.locals.length bh.c4,.int .i64 b.args,.slice bh.A5 b.blocks.length bh.c5]) h0 1 _ rfl;have x2:=cR (l:=[Value.string b.name,.slice bh.A1 b.regions.length bh.c1,.slice bh.A2 b.outl.length bh.c2,.slice bh.A3 b.types.length bh.c3,.slice bh.A4 b.locals.length bh.c4,.int .i64 b.args,.slice bh.A5 b.blocks.length bh.c5]) h0 2 _ rfl;have x3:=cR (l:=[Value.string b.name,.slice bh.A1 b.regions.length bh.c1,.slice bh.A2 b.outl.length bh.c2,.slice bh.A3 b.types.length bh.c3,.slice bh.A4 b.locals.length bh.c4,.int .i64 b.args,.slice bh.A5 b.blocks.length bh.c5]) h0 3 _ rfl;have x4:=cR (l:=[Value.string b.name,.slice bh.A1 b.regions.length bh.c1,.slice bh.A2 b.outl.length bh.c2,.slice bh.A3 b.types.length bh.c3,.slice bh.A4 b.locals.length bh.c4,.int .i64 b.args,.slice bh.A5 b.blocks.length bh.c5]) h0 4 _ rfl;have x5:=cR (l:=[Value.string b.name,.slice bh.A1 b.regions.length bh.c1,.slice bh.A2 b.outl.length bh.c2,.slice bh.A3 b.types.length bh.c3,.slice bh.A4 b.locals.length bh.c4,.int .i64 b.args,.slice bh.A5 b.blocks.length bh.c5]) h0 5 _ rfl;have x6:=cR (l:=[Value.string b.name,.slice bh.A1 b.regions.length bh.c1,.slice bh.A2 b.outl.length bh.c2,.slice bh.A3 b.types.length bh.c3,.slice bh.A4 b.locals.length bh.c4,.int .i64 b.args,.slice bh.A5 b.blocks.length bh.c5]) h0 6 _ rfl;have HB0:=aH hb0;have HZ0:=aH hz0;have H1:=aH h1;have H2:=aH h2;clear H hl hR hb0 hz0 h0 h1 h2 hc hpr;unfold bdC at HAC;unfold bdC lnC;refine (callsIn_wide (n:=5)).1 ?_;refine callsIn_of_wp_marks Tryz.func66 rfl trivial ?_ rfl;simp only [Tryz.ntmps66,List.size_toArray,bN,bQ,Nat.reduceAdd,Nat.reduceSub,Array.replicate_succ,Array.replicate_zero,List.push_toArray,List.append_toArray,List.nil_append,List.cons_append];gi_wp2_with (refine ⟨trivial,?_⟩;gi_at_call 96;refine (callsIn_wide.2 (HAC.out _)).mono ?_;rintro e' w5 ⟨rfl,rfl⟩)
 obtain ⟨W1,hW1⟩:∃W1,(W0.alloc (.cells (bdC b bh).toArray 59)).alloc (.cells #[.int .i64 p] 3)=W1:=⟨_,rfl⟩;have hb1:Below W0.heap.size W0 W1:=by rw [<- hW1];exact bel2 _ _ _
 have hz1:W1.heap.size=W0.heap.size+1+1:=by rw [<- hW1];simp
 have hx1:∀i v,(bdC b bh)[i]?=some v->W1.cell? ⟨W0.heap.size,i,none⟩=some v:=fun i v h=>by
  rw [<- hW1];exact cQ (alF _ _) (cT W0 (bdC b bh) 59 i v h)
 have hp1:W1.cell? ⟨W0.heap.size+1,0,none⟩=some (.int .i64 p):=by
  rw [<- hW1];have:=cT (W0.alloc (.cells (bdC b bh).toArray 59)) [.int .i64 p] 3 0 _ rfl;rwa [bK] at this
 unfold bdC at hW1;rw [hW1];have hlow:=HB0.out.trans (hb1.mono HB0.out.size);obtain ⟨L,hL,hLs,hseq⟩:=xDR 4 (by omega) b bh p W0.heap.size (W0.heap.size+1) w W1 hlow HH.out hx1 hp1 HCN.out HPR.out;have hR1:=(hb1.block _ (Array.getElem?_eq_some_iff.1 H1.out).1).trans H1.out;have hR2:=(hb1.block _ (Array.getElem?_eq_some_iff.1 H2.out).1).trans H2.out;have HL:=aH hL;have HLS:=aH hLs;have HZ:Hid (W1.heap.size=w.heap.size+1+1+1+1+1/\W0.heap.size=w.heap.size+1+1+1):=aH (by have:=HZ0.out;omega);have HRL:Hid (L.any (fun e=>cfl e.a ⟨lr,lp,mu,ll,lj⟩)=R):=aH (by rw [<- HR.out,<- hL,List.any_map];rfl);clear hW1 hb1 hz1 hx1 hp1 HAC HB0 HZ0 H1 H2 hL hLs x0 x1 x2 x3 x4 x5 x6 hW0 HR HCN HPR HH
 refine gO rfl (by omega) (gf:=138) (lb:= #[.pointer (some ⟨W0.heap.size,0,none⟩),.pointer (some ⟨W0.heap.size+1,0,none⟩)]) rfl trivial (enters_of Tryz.func138 (by kernel_rfl) rfl)
  hseq (aZ _ _) (by have:=HZ.out;rintro k (h | rfl | rfl) <;> omega) (fun _=>rfl)
  (fun pre X=>X.heap[w.heap.size+1+1]?=some (.cells #[.bool false] 4 (0,0))/\X.heap[w.heap.size+1]?=some (.cells ([Value.int .i64 lr,.int .i64 lp,.bool mu,.int .i64 ll,.slice B lj.length d]).toArray 38 (0,0))/\Below w.heap.size w X/\Hid (∀e∈pre,cfl e.a ⟨lr,lp,mu,ll,lj⟩=false))
  (fun c pre X=>c = .ret/\X.heap[w.heap.size+1+1]?=some (.cells #[.bool true] 4 (0,0))/\Below w.heap.size w X/\Hid (∃e∈pre,cfl e.a ⟨lr,lp,mu,ll,lj⟩=true))
  (fun s A B' hs ht=>⟨ht.block_low (by have:=HZ.out;omega) hs.1,ht.block_low (by have:=HZ.out;omega) hs.2.1,ht.below (by have:=HZ.out;omega) hs.2.2.1.size hs.2.2.1,hs.2.2.2⟩) (fun c s A B' hs ht=>⟨hs.1,ht.block_low (by have:=HZ.out;omega) hs.2.1,ht.below (by have:=HZ.out;omega) hs.2.2.1.size hs.2.2.1,hs.2.2.2⟩)
  ⟨hR2,hR1,hlow,aH (by simp)⟩ ?round ?done ?stop
 case round=>
  rintro lr' pre ⟨⟨⟨pl,pj⟩,wr,dp⟩,eA,ec⟩ post Y hL' hlr ⟨rr,hr⟩ hWs ⟨hb,hbl,hB,HPF⟩;have HSE:=aH (HLS.out ⟨⟨⟨pl,pj⟩,wr,dp⟩,eA,ec⟩ (by rw [hL'];simp));have HC:=aH (fun (X:World) (hX:Below w.heap.size w X)=>xDK ⟨⟨pl,pj⟩,wr,dp⟩ ⟨lr,lp,mu,ll,lj⟩ eA B ec d X (HSE.out.keep RPj.keeps hX) (HS.out.keep RPj.keeps hX));try simp only at HC
  clear hseq hR1 hR2 hlow hL';simp only [encX,List.zip_toArray,List.zip_cons_cons];gi_wp2
  refine ⟨(Kb.refl _ _ _ _).alloc _,fun Y2 hrec=>?_⟩;obtain ⟨YL,hYL⟩:∃YL,Y.alloc (.cells #[.int .i64 pl,.slice eA pj.length ec,.bool wr,.bool dp] 165)=YL:=⟨_,rfl⟩;have hal1:=alF Y (.cells #[.int .i64 pl,.slice eA pj.length ec,.bool wr,.bool dp] 165);have s:=cT Y [.int .i64 pl,.slice eA pj.length ec,.bool wr,.bool dp] 165;rw [hYL] at hal1 s hrec;have s0:=hrec.cell (s 0 _ rfl);have s1:=hrec.cell (s 1 _ rfl);have s2:=hrec.cell (s 2 _ rfl);have s3:=hrec.cell (s 3 _ rfl);have hb2:=hrec.cells ((hal1.block _ (Array.getElem?_eq_some_iff.1 hb).1).trans hb);have hbl2:=hrec.cells ((hal1.block _ (Array.getElem?_eq_some_iff.1 hbl).1).trans hbl);have hB2:Below w.heap.size w Y2:=(hB.trans (hal1.mono hB.size)).trans ⟨hrec.os,hrec.tape,hrec.output,by rw [hrec.size];exact bA _,fun k hk=>hrec.block k (by have:=HZ.out;omega)⟩;have l0:=cR (l:=[Value.int .i64 lr,.int .i64 lp,.bool mu,.int .i64 ll,.slice B lj.length d]) hbl2 0 _ rfl;have l1:=cR (l:=[Value.int .i64 lr,.int .i64 lp,.bool mu,.int .i64 ll,.slice B lj.length d]) hbl2 1 _ rfl;have l2:=cR (l:=[Value.int .i64 lr,.int .i64 lp,.bool mu,.int .i64 ll,.slice B lj.length d]) hbl2 2 _ rfl;have l3:=cR (l:=[Value.int .i64 lr,.int .i64 lp,.bool mu,.int .i64 ll,.slice B lj.length d]) hbl2 3 _ rfl;have l4:=cR (l:=[Value.int .i64 lr,.int .i64 lp,.bool mu,.int .i64 ll,.slice B lj.length d]) hbl2 4 _ rfl;have HB2:=aH hB2;have HR2:=aH hb2;have HBL2:=aH hbl2;obtain ⟨v,hv⟩:∃v,cfl ⟨⟨pl,pj⟩,wr,dp⟩ ⟨lr,lp,mu,ll,lj⟩=v:=⟨_,rfl⟩;rw [hv] at HC;have HV:=aH hv;clear hal1 s hrec hYL hr hb hbl hB hb2 hbl2 hB2 hv;cases v
  case false=>
   gi_wp2_with (refine ⟨trivial,?_⟩;gi_at_call 97;refine (CallsIn.inRound _ (callsIn_wide.2 (HC.out _ HB2.out))).mono ?_;rintro e' w3 ⟨rfl,hb3⟩;have HB3:=aH hb3;clear hb3)
   exact ⟨Kb.of_below HB3.out,(HB3.out.block _ (Array.getElem?_eq_some_iff.1 HR2.out).1).trans HR2.out,(HB3.out.block _ (Array.getElem?_eq_some_iff.1 HBL2.out).1).trans HBL2.out,HB2.out.trans (HB3.out.mono HB2.out.size),aH (fun e he=>(List.mem_append.1 he).elim (HPF.out e) (fun h=>by rw [bU] at h;subst h;exact HV.out))⟩
  case true=>
   gi_wp2_with (refine ⟨trivial,?_⟩;gi_at_call 97;refine (CallsIn.inRound _ (callsIn_wide.2 (HC.out _ HB2.out))).mono ?_;rintro e' w3 ⟨rfl,hb3⟩;have HB3:=aH hb3;have hr3:=(hb3.block _ (Array.getElem?_eq_some_iff.1 HR2.out).1).trans HR2.out;have z3:=cR (l:=[.bool false]) hr3 0 _ rfl;have zf:w3.frozen? ⟨w.heap.size+1+1,0,none⟩=false:=(by simp [World.frozen?,hr3]);have HR3:=aH hr3;clear hb3 hr3)
   exact ⟨(Kb.of_below HB3.out).setLow (p:=⟨w.heap.size+1+1,0,none⟩) _ (by have:=HZ.out;simp only;omega) (by have:=HZ.out;simp only;omega),rfl,gF HR3.out,(HB2.out.trans (HB3.out.mono HB2.out.size)).setCell (p:=⟨w.heap.size+1+1,0,none⟩) (by simp only;omega) _,aH ⟨_,List.mem_append.2 (.inr (List.mem_singleton.2 rfl)),HV.out⟩⟩
 case stop=>
  rintro D c pre x' post Y hD hL' ⟨rfl,hb,hB,hex⟩ hK
  have HF:Hid (true=R):=aH (by
   rw [<- HRL.out,hL'];obtain ⟨e,he,hv⟩:=hex.out;refine Eq.symm (List.any_eq_true.2 ⟨e,?_,hv⟩);rw [show pre ++ x' :: post=(pre ++ [x']) ++ post by simp]
   exact List.mem_append.2 (.inl he))
  have HBB:=aH hb;have HB:=aH hB;clear hseq hR1 hR2 hlow hL' hb hB hex;gi_wp2
  refine ⟨by simp,.inl ⟨_,_,rfl,run_takeDeferred (w:=Y) hK,?_⟩⟩;generalize hY9:Y.putObj D (.deferred none)=Y9
  have hu:Y9.cell? ⟨w.heap.size+1+1,0,none⟩=some (.bool true):=by
   rw [<- hY9];exact cR (l:=[.bool true]) ((World.putObj_heap_other (by have:=HZ.out;omega)).trans HBB.out) 0 _ rfl
  have hBY:Below w.heap.size w Y9:=by rw [<- hY9];exact below_put HB.out (by have:=HZ.out;omega)
  clear hY9;exact ⟨.bool true,by simp [results,Tryz.results66,go_sem,hu],ret_b HF.out,hBY⟩
 case done=>
  rintro D Y hD ⟨hb,hbl,hB,hpf⟩ hK
  have HF:Hid (false=R):=aH (by
   rw [<- HRL.out]
   exact Eq.symm (List.any_eq_false.2 (fun e he=>by rw [hpf.out e he];decide)))
  have y0:=cR (l:=[.bool false]) hb 0 _ rfl;have yf:Y.frozen? ⟨w.heap.size+1+1,0,none⟩=false:=by simp [World.frozen?,hb]
  have HBB:=aH hb;have HB:=aH hB;have HKK:=aH hK;clear hseq hR1 hR2 hlow hb hbl hB hpf hK;gi_wp2
  have hK2:(Y.setCell ⟨w.heap.size+1+1,0,none⟩ (.bool false)).heap[D]?=some (.deferred (some [])):=(bJ Y ⟨w.heap.size+1+1,0,none⟩ _ D (by have:=HZ.out;simp only;omega)).trans HKK.out;refine ⟨by simp,.inl ⟨_,_,rfl,run_takeDeferred hK2,?_⟩⟩;generalize hY9:(Y.setCell ⟨w.heap.size+1+1,0,none⟩ (.bool false)).putObj D (.deferred none)=Y9
  have hu:Y9.cell? ⟨w.heap.size+1+1,0,none⟩=some (.bool false):=by
   rw [<- hY9];exact cR (l:=[.bool false]) ((World.putObj_heap_other (by have:=HZ.out;omega)).trans (gF HBB.out)) 0 _ rfl
  have hBY:Below w.heap.size w Y9:=by rw [<- hY9];exact below_put (HB.out.setCell (p:=⟨w.heap.size+1+1,0,none⟩) (by simp only;omega) _) (by have:=HZ.out;omega)
  clear hY9;exact ⟨.bool false,by simp [results,Tryz.results66,go_sem,hu],ret_b HF.out,hBY⟩
end
section
open Go Go.RowKit
def subS (pairs:List (Int × Int)) (n:Int) (S:Int->Int->Bool) (a b:Ty):Bool:=
 decide (a.kind=b.kind) && decide (a.mu=b.mu) && decide (a.flds.length=b.flds.length) && (a.flds.zip b.flds).all (fun p=>S p.1 p.2) &&
  (decide (a.kind≠3) || (outB pairs n a.reg b.reg && S a.elem b.elem && (!a.mu || S b.elem a.elem)))
theorem gZ (pairs:List (Int × Int)) (n:Int) (ts:List Ty) (f:Nat) (s t:Int):subF pairs n ts (f+1) s t=if s<0\/t<0 then false else match ts[s.toNat]?,ts[t.toNat]? with
 | some a,some b=>subS pairs n (subF pairs n ts f) a b
 | _,_=>false:=rfl
theorem mG {pairs:List (Int × Int)} {n:Int} {S S':Int->Int->Bool} {a b:Ty} (h:∀x∈a.flds,∀y∈b.flds,S x y=S' x y) (h3:a.kind=3->b.kind=3->S a.elem b.elem=S' a.elem b.elem/\S b.elem a.elem=S' b.elem a.elem):
 subS pairs n S a b=subS pairs n S' a b:=by
 unfold subS
 have e1:(a.flds.zip b.flds).all (fun p=>S p.1 p.2)=(a.flds.zip b.flds).all (fun p=>S' p.1 p.2):=by
  rw [bS,List.all_eq_true,List.all_eq_true];constructor
  ·intro g p hp;have:=List.of_mem_zip hp;rw [<- h p.1 this.1 p.2 this.2];exact g p hp
  ·intro g p hp;have:=List.of_mem_zip hp;rw [h p.1 this.1 p.2 this.2];exact g p hp
 rw [e1];by_cases hk:a.kind=b.kind
 ·by_cases ha:a.kind=3
  ·obtain ⟨h4,h5⟩:=h3 ha (hk ▸ ha);rw [h4,h5]
  ·simp [ha]
 ·simp [hk]
theorem eH {pairs:List (Int × Int)} {n:Int} {ts:List Ty} (hok:TyOk ts):∀(f g:Nat) (s t:Int),s.toNat+t.toNat<f->s.toNat+t.toNat<g->subF pairs n ts f s t=subF pairs n ts g s t
 | 0,_,_,_,h,_=>absurd h (by omega)
 | _,0,_,_,_,h=>absurd h (by omega)
 | f+1,g+1,s,t,h,h2=>by
   rw [gZ,gZ];by_cases hi:s<0\/t<0
   ·rw [bD hi,bD hi]
   rw [bB hi,bB hi];by_cases hs:s.toNat<ts.length
   ·by_cases ht:t.toNat<ts.length
    ·rw [bF hs,bF ht];simp only;refine mG ?_ ?_
     ·intro x hx y hy;have h5:=(hok _ hs).2 x hx;have h6:=(hok _ ht).2 y hy;exact eH hok f g x y (by omega) (by omega)
     ·intro ha hb;obtain ⟨a1,a2,-⟩:=(hok _ hs).1 ha;obtain ⟨b1,b2,-⟩:=(hok _ ht).1 hb;exact ⟨eH hok f g _ _ (by omega) (by omega),eH hok f g _ _ (by omega) (by omega)⟩
    ·rw [cG (by omega:ts.length<=t.toNat)];cases ts[s.toNat]? <;> rfl
   ·rw [cG (by omega:ts.length<=s.toNat)]
theorem pQ {b:Bdy} (hok:TyOk b.types) {s t:Nat} (hs:s<b.types.length) (ht:t<b.types.length):
 subB b s t=subS b.outl b.regions.length (subB b) b.types[s] b.types[t]:=by
 have e:subB b s t=subF b.outl b.regions.length b.types (s+t+1) s t:=rfl;rw [e,gZ,bB (by omega)];simp only [bX];rw [bF hs,bF ht];simp only;refine mG ?_ ?_
 ·intro x hx y hy;have h5:=(hok _ hs).2 x hx;have h6:=(hok _ ht).2 y hy;exact eH hok _ _ x y (by omega) (by omega)
 ·intro ha hb;obtain ⟨a1,a2,-⟩:=(hok _ hs).1 ha;obtain ⟨b1,b2,-⟩:=(hok _ ht).1 hb;exact ⟨eH hok _ _ _ _ (by omega) (by omega),eH hok _ _ _ _ (by omega) (by omega)⟩
theorem yH {b:Bdy} {s t:Int} (h:s<0\/t<0\/(b.types.length:Int)<=s\/(b.types.length:Int)<=t):subB b s t=false:=by
 have e:subB b s t=subF b.outl b.regions.length b.types (s.toNat+t.toNat+1) s t:=rfl;rw [e,gZ];by_cases hi:s<0\/t<0
 ·rw [bD hi]
 rw [bB hi];by_cases hs:s.toNat<b.types.length
 ·rw [cG (by omega:b.types.length<=t.toNat)];cases b.types[s.toNat]? <;> rfl
 ·rw [cG (by omega:b.types.length<=s.toNat)]
def CovT (ts:List Ty) (sl:List Int) (i:Int):Prop:=∃(h:i.toNat<ts.length),0<=i/\((ts[i.toNat].kind=3/\ts[i.toNat].mu=false)\/(ts[i.toNat].kind≠3/\i∈sl))
theorem CovT.mono {ts:List Ty} {sl sl':List Int} {i:Int} (h:CovT ts sl i) (hs:∀x∈sl,x∈sl'):CovT ts sl' i:=by
 obtain ⟨h1,h2,h3⟩:=h;exact ⟨h1,h2,h3.imp id (fun h=>⟨h.1,hs _ h.2⟩)⟩
theorem sC {ts:List Ty} (hok:TyOk ts) {sl:List Int} (hc:∀x∈sl,∀(h:x.toNat<ts.length),0<=x->ts[x.toNat].kind≠3->∀f∈ts[x.toNat].flds,CovT ts sl f):∀(m:Nat) (i:Int),i.toNat<m->CovT ts sl i->copB ts i=true
 | 0,_,h,_=>absurd h (by omega)
 | m+1,i,hm,⟨h1,h2,h3⟩=>by
   obtain ⟨k,rfl⟩:=bI h2;simp only [bX] at h1 h3 hm;rw [xC hok h1];rcases h3 with ⟨h3,h4⟩ | ⟨h3,h4⟩
   ·rw [bD h3,h4];rfl
   ·rw [bB h3,List.all_eq_true];intro f hf;have hfr:=(hok k h1).2 f hf;exact sC hok hc m f (by omega) (hc _ h4 (by simpa using h1) h2 (by simpa using h3) f (by simpa using hf))
end
section
open Go Go.RowKit Go.Maps
def FineT (ts:List Ty) (sl:List Int) (x:Int):Prop:=0<=x/\∀(h:x.toNat<ts.length),ts[x.toNat].kind≠3->∀f∈ts[x.toNat].flds,CovT ts sl f
theorem FineT.mono {ts:List Ty} {sl sl':List Int} {x:Int} (h:FineT ts sl x) (hs:∀y∈sl,y∈sl'):FineT ts sl' x:=
 ⟨h.1,fun hl hk f hf=>(h.2 hl hk f hf).mono hs⟩
def NewT (ts:List Ty) (sl sl':List Int):Prop:=(∀x∈sl,x∈sl')/\∀x∈sl',x∈sl\/FineT ts sl' x
theorem NewT.refl (ts:List Ty) (sl:List Int):NewT ts sl sl:=⟨fun _ h=>h,fun _ h=>Or.inl h⟩
theorem NewT.trans {ts:List Ty} {a b c:List Int} (h:NewT ts a b) (k:NewT ts b c):NewT ts a c:=
 ⟨fun x hx=>k.1 x (h.1 x hx),fun x hx=>by
   rcases k.2 x hx with hb | hb
   ·rcases h.2 x hb with ha | ha
    ·exact Or.inl ha
    ·exact Or.inr (ha.mono k.1)
   ·exact Or.inr hb⟩
theorem NewT.mark {ts:List Ty} {a b:List Int} {i:Nat} (hi:i<ts.length) (h:NewT ts ((i:Int) :: a) b) (hf:∀f∈ts[i].flds,CovT ts b f):NewT ts a b:=
 ⟨fun x hx=>h.1 x (List.mem_cons_of_mem _ hx),fun x hx=>by
   rcases h.2 x hx with ha | ha
   ·rcases List.mem_cons.1 ha with rfl | ha
    ·exact Or.inr ⟨by omega,fun _ _ f hff=>hf f (by simpa using hff)⟩
    ·exact Or.inl ha
   ·exact Or.inr ha⟩
theorem zL {ts:List Ty} (hok:TyOk ts) {sl:List Int} (h:NewT ts [] sl) {i:Int} (hc:CovT ts sl i):copB ts i=true:=
 sC hok (fun x hx hl h0 hk f hf=>by
  rcases h.2 x hx with hn | hn
  ·exact absurd hn (by simp)
  ·exact hn.2 hl hk f hf) (i.toNat+1) i (by omega) hc
theorem dR {w w':World} {row:Option Nat} (hg:w.grownBy w' row) {p:Addr} {v:Value} (h:w.cell? p=some v) (hne:some p.block≠row):w'.cell? p=some v:=
 (World.cell?_of_block (hg.block _ (cF _ _ h) hne)).trans h
theorem eK {w w':World} (h:Below w.heap.size w w') (row:Option Nat):w.grownBy w' row:=
 ⟨h.os,h.tape,h.output,h.size,fun i hi _=>h.block i hi⟩
structure CopE where
 w0:World
 A:Option Addr
 c:Nat
 pl:Nat
 ps:Nat
 pc:Nat
 M:Nat
structure CopE.Ok (E:CopE) (ts:List Ty):Prop where
 ty:Slc 5 RTy E.w0 E.A E.c ts
 tyok:TyOk ts
 n:ts.length<=65535
 M:E.w0.heap.size<=E.M
 l:E.M≠E.pl
 s:E.M≠E.ps
 c:E.M≠E.pc
structure CopE.St (E:CopE) (n:Nat) (W:World) (sl:List Int) (F:Value):Prop where
 low:Below E.w0.heap.size E.w0 W
 l:W.cell? ⟨E.pl,0,none⟩=some (.slice E.A n E.c)
 s:W.cell? ⟨E.ps,0,none⟩=some (.map (some E.M))
 c:W.cell? ⟨E.pc,0,none⟩=some F
 own:OwnB Tryz.prog 3 4 W E.M sl.length (i64F (inF sl))
 nd:sl.Nodup
 rng:∀x∈sl,0<=x/\x<(n:Int)
theorem CopE.St.len {E:CopE} {n:Nat} {W:World} {sl:List Int} {F:Value} (h:E.St n W sl F):sl.length<=n:=dY n sl h.nd h.rng
theorem CopE.St.keep {E:CopE} {n:Nat} {W W':World} {sl:List Int} {F:Value} (h:E.St n W sl F) (hb:Below W.heap.size W W'):E.St n W' sl F:=
 ⟨h.low.trans (hb.mono h.low.size),cQ hb h.l,cQ hb h.s,cQ hb h.c,h.own.below hb,h.nd,h.rng⟩
theorem CopE.St.put {E:CopE} {ts:List Ty} {n:Nat} {W W':World} {sl:List Int} {F:Value} (h:E.St n W sl F) (hE:E.Ok ts) {i:Int} (hi:i∉sl) (hr:0<=i/\i<(n:Int))
 (hown:OwnB Tryz.prog 3 4 W' E.M (sl.length+1) (i64F (inF (i :: sl)))) (hg:W.grownBy W' (some E.M)):E.St n W' (i :: sl) F:=by
 have hc:∀(p:Nat) (v:Value),E.M≠p->W.cell? ⟨p,0,none⟩=some v->W'.cell? ⟨p,0,none⟩=some v:=fun p v hne hv=>
  dR hg hv (by simpa using (Ne.symm hne))
 refine ⟨h.low.trans (dN hg hE.M h.low.size),hc _ _ hE.l h.l,hc _ _ hE.s h.s,hc _ _ hE.c h.c,hown,List.nodup_cons.2 ⟨hi,h.nd⟩,fun x hx=>?_⟩;rcases List.mem_cons.1 hx with rfl | hx
 ·exact hr
 ·exact h.rng x hx
def CopE.Q (E:CopE) (ts:List Ty) (F:Value) (sl:List Int) (i:Int) (q:Bool) (W':World):Prop:=
 (q=true/\∃sl',NewT ts sl sl'/\CovT ts sl' i/\E.St ts.length W' sl' F)\/(q=false/\copB ts i=false/\Below E.w0.heap.size E.w0 W')
end
end Go.Proofs.YtkaigkfbkpinlaaGreatDoor
