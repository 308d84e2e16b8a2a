/-
  Parts of the proof: Y17.
-/
import Derived.Test.YtmknfbfppmkcfaaGreatDoorPI0
import Derived.Test.YtmknfbfppmkcfaaGreatDoorPI21
import Derived.Test.YtmknfbfppmkcfaaGreatDoorPI16
import Derived.Deep.CutBlock
namespace Go.Proofs.YtmknfbfppmkcfaaGreatDoor
set_option maxRecDepth 100000
set_option maxHeartbeats 16000000
section
open Go Go.RowKit
theorem vV {b:Bdy} (D:DeclOk b):∀t∈b.types,t.flds.length<=65535:=fun t ht=>by
 obtain ⟨i,hi,rfl⟩:=List.mem_iff_getElem.1 ht;have hg:=D.good i hi;by_cases h4:(b.types[i]).kind=4
 ·exact hg.2.2.2.2.1 h4
 ·rw [hg.2.2.2.2.2 h4];simp
theorem eU {T bs rest:List UInt8} (h:T=bs ++ rest) {N:Nat} (hz:T.length<=N):bs.length+rest.length<=N:=by rw [h,bB] at hz;exact hz
theorem gP (b:Bdy) (bh:BH) (w:World) (H:BdAt w b bh) (hT:TabsOk w) (hpow:PowTab w) (hsp:SpTab w) (hf:FitB b) (hz:chkB b=0->(printP b).length<=100000000000000):
 Calls Tryz.prog 10 #[.agg (bdC b bh).toArray] w fun e' w'=>e' = .returned (if chkB b=0 then .tuple #[tx (printP b),.int .i64 0] else .tuple #[tx [],.int .i64 16])/\Below w.heap.size w w':=by
 have HB0:=aF (fun (o:Obj)=>(aX w.heap.size w).alloc (aY _) o);have HK0:=aF (fun (W:World) (hb:Below w.heap.size w W)=>mO b bh W (H.keep hb) (hT.keep hb));obtain ⟨A1,c1,A2,c2,A3,c3,A4,c4,A5,c5⟩:=bh;have HK:Hid (∀W,Below w.heap.size w W->Calls Tryz.prog 27 #[.agg ([Value.string b.name,.slice A1 b.regions.length c1,.slice A2 b.outl.length c2,.slice A3 b.types.length c3,.slice A4 b.locals.length c4,.int .i64 b.args,.slice A5 b.blocks.length c5]).toArray] W fun e' w'=>e' = .returned (.int .i64 (chkB b))/\Below W.heap.size W w'):=aF (fun W hb=>HK0.out W hb);have HN0:=aF (heap_alloc_new w (.cells ([Value.string b.name,.slice A1 b.regions.length c1,.slice A2 b.outl.length c2,.slice A3 b.types.length c3,.slice A4 b.locals.length c4,.int .i64 b.args,.slice A5 b.blocks.length c5]).toArray 28));have hr1:=H.reg.le;have hr2:=H.reg.big;have ho1:=H.out.le;have ho2:=H.out.big;have ht1:=H.typ.le;have ht2:=H.typ.big;have hl1:=H.loc.le;have hl2:=H.loc.big;have hb1:=H.blk.le;have hb2:=H.blk.big;have HH:=aF H;have HHT:=aF hT;have HPOW:=aF hpow;have HSP:=aF hsp;have HF:=aF hf;have HZ:=aF hz;simp only at hr1 hr2 ho1 ho2 ht1 ht2 hl1 hl2 hb1 hb2;clear HK0 H hT hpow hsp hf hz;by_cases hc:chkB b=0
 case neg=>
  rw [aZ hc];obtain ⟨c,hce⟩:∃c,chkB b=c:=⟨_,rfl⟩;rw [hce] at hc HK;have e1:(c != 0)=true:=by simp [hc]
  clear hce hc HZ HF HN0;unfold bdC;go_enter Tryz.func10,Tryz.ntmps10
  go_wp2_with (go_at_call 27;refine (HK.out _ (HB0.out _)).mono ?_;rintro e' w1 ⟨rfl,hw1⟩;have HB1:=aF ((HB0.out _).trans (hw1.mono (HB0.out _).size));clear hw1)
  refine bodyPost_ret (v:= .tuple #[tx [],.int .i64 16]) (by simp [results,Tryz.results10,go_sem] <;> rfl) rfl ⟨rfl,HB1.out⟩
 case pos=>
 rw [bA hc];have HOK:=aF (qB hc);have HDK:=aF (dS (ychk hc).1);have hmf:∀(fn:Fn) (first cap:Array Value) (w:World),(Instr.makeFunc fn first cap).run Tryz.prog w = .ok (.func fn first cap) w:=fun _ _ _ _=>rfl
 have HZ2:=aF (HZ.out hc);have hcc0:=hc;rw [hc] at HK;have HCK:=aF hcc0;clear hc hcc0 HZ;unfold bdC at *;go_enter Tryz.func10,Tryz.ntmps10
 go_wp2_with (go_at_call 27;refine (HK.out _ (HB0.out _)).mono ?_)
 rintro e' w1 ⟨rfl,hw1⟩;have HB1:=aF ((HB0.out _).trans (hw1.mono (HB0.out _).size));have hN1:=cR HN0.out hw1;have hn1:w.heap.size<w1.heap.size:=(Array.getElem?_eq_some_iff.1 hN1).1;have hy:=cW (l:=(bdM b A1 c1 A2 c2 A3 c3 A4 c4 A5 c5 [])) hN1;have y0:=hy 0 _ rfl;have y1:=hy 1 _ rfl;have y2:=hy 2 _ rfl;have y3:=hy 3 _ rfl;have y4:=hy 4 _ rfl;have y5:=hy 5 _ rfl;have y6:=hy 6 _ rfl;clear hw1 hy HK HN0;obtain ⟨g,hg⟩:∃g,w1.heap.size=g:=⟨_,rfl⟩;obtain ⟨Wg,hWg⟩:∃W,w1.alloc (.cells #[.pointer none,.slice none 0 0,.string b.name,.slice A1 b.regions.length c1,.slice A2 b.outl.length c2,.slice A3 b.types.length c3,.slice A4 b.locals.length c4,.int .i64 b.args,.slice A5 b.blocks.length c5,.int .i64 0] 72)=W:=⟨_,rfl⟩;have hWgs:Wg.heap.size=g+1:=by rw [<- hWg,<- hg];simp
 obtain ⟨W0,hW0⟩:∃W,Wg.alloc (.cells #[.pointer (some ⟨g,0,none⟩)] 66)=W:=⟨_,rfl⟩
 have P0:PW w w.heap.size g b ⟨A1,c1,A2,c2,A3,c3,A4,c4,A5,c5⟩ [] 0 W0:=by
  have hb1:Below w1.heap.size w1 Wg:=by rw [<- hWg];exact (aX _ _).alloc (aY _) _
  have hb2:Below Wg.heap.size Wg W0:=by rw [<- hW0];exact (aX _ _).alloc (aY _) _
  have hb3:Below w.heap.size w W0:=HB1.out.trans ((hb1.mono HB1.out.size).trans (hb2.mono (by have:=HB1.out.size;omega)));have hgk:Wg.heap[g]?=some (.cells (prC b ⟨A1,c1,A2,c2,A3,c3,A4,c4,A5,c5⟩ (.pointer none) (.slice none 0 0) 0) 72 (0,0)):=by rw [<- hWg,<- hg];exact heap_alloc_new w1 _
  refine ⟨⟨HH.out,HPOW.out,HSP.out,by omega,hb3,⟨by omega,by rw [<- hW0,bI];omega,.pointer none,.slice none 0 0,.inl rfl,cR hgk hb2,World.ownsRow_nil _ _ _ _⟩⟩,cR (cR hN1 hb1) hb2,?_,by omega⟩;rw [<- hW0,<- hWgs];exact heap_alloc_new Wg _
 have HP0:=aF P0;have HT0:Hid (printP b=headP [98,111,100,121] b ++ rR1 b):=aF (vJ b);have hzl:=eU HT0.out HZ2.out
 have hz1:¬(9223372036854775807<1+b.name.size):=by
  have:(headP [98,111,100,121] b).length=b.name.size+9:=by simp [headP]
  omega
 have ea:(⟨#[64]⟩:ByteArray) ++ b.name=⟨(64 :: bl b.name).toArray⟩:=(ba_app' _ _).trans (by simp [bl])
 have HL0:Hid (∀bk,RowT (W0.alloc (.cells #[tx [98,111,100,121],tx (64 :: bl b.name),tx [123]] 9)) bk [[98,111,100,121],64 :: bl b.name,[123]]->Calls Tryz.prog 28 #[.pointer (some ⟨g,0,none⟩),.slice (some ⟨bk,0,none⟩) 3 3] (W0.alloc (.cells #[tx [98,111,100,121],tx (64 :: bl b.name),tx [123]] 9)) fun e' w'=>e' = .returned (.tuple #[])/\PW w w.heap.size g b ⟨A1,c1,A2,c2,A3,c3,A4,c4,A5,c5⟩ (headP [98,111,100,121] b) 1 w'):=aF (fun bk hr=>by
  have hbw:=(aX W0.heap.size W0).alloc (aY _) (.cells #[tx [98,111,100,121],tx (64 :: bl b.name),tx [123]] 9)
  have h:=oE (HP0.out.keep hbw).L [[98,111,100,121],64 :: bl b.name,[123]] ([98,111,100,121,32,64] ++ bl b.name ++ [32]) bk hr (by rw [join3];simp) (by decide) (by simp) (by
   have:(headP [98,111,100,121] b).length=(bl b.name).length+9:=by simp [headP]
   simp only [bB,bK,bP];omega)
  refine h.mono ?_;rintro e' w' ⟨rfl,hl,hf⟩
  refine ⟨rfl,(HP0.out.keep hbw).fr (by
   have e:headP [98,111,100,121] b=[] ++ (ind 0 ++ ([98,111,100,121,32,64] ++ bl b.name ++ [32] ++ [123,10])):=by
    rw [show ind 0=[] from rfl];simp [headP]
   rw [e];exact hl) hf⟩)
 have hc0:=HP0.out.cells;have z0:=hc0.1 0 _ rfl;have zp:=hc0.2;clear hzl P0 hN1 hc0;go_upto_if 29 with (go_at_call 28;refine (HL0.out _ (dU W0 [[98,111,100,121],64 :: bl b.name,[123]])).mono ?_;rintro e' w2 ⟨rfl,hp2⟩;have HP:=aF hp2;have hc2:=bJ (cW (l:=(bdM b A1 c1 A2 c2 A3 c3 A4 c4 A5 c5 [])) hp2.bd) (cW hp2.pc 0 _ rfl);have y1:=hc2.1 1 _ rfl;have y2:=hc2.1 2 _ rfl;have y3:=hc2.1 3 _ rfl;have y4:=hc2.1 4 _ rfl;have y5:=hc2.1 5 _ rfl;have y6:=hc2.1 6 _ rfl;have yp:=hc2.2;clear hp2 hc2)
 go_cut [] (fun wx=>∃bs,printP b=bs ++ rR2 b/\PW w w.heap.size g b ⟨A1,c1,A2,c2,A3,c3,A4,c4,A5,c5⟩ bs 1 wx)
 case first=>
  have HP1:=HP;by_cases hne:b.regions.length=0
  ·have he:b.regions=[]:=bV hne;have hnp:¬0<b.regions.length:=by omega
   have HE0:=aF he;clear he hne;go_wp2_with fail
   go_meet;exact ⟨_,by rw [HT0.out,rR1,HE0.out];rfl,HP1.out⟩
  ·have hpos:0<b.regions.length:=by omega
   obtain ⟨J,hJ⟩:∃J,comP (b.regions.map (fun r=>39 :: bl r))=J:=⟨_,rfl⟩;have hrg:regsP b.regions=[32,32,114,101,103,105,111,110,115,32] ++ J ++ semP:=by unfold regsP;rw [aZ (fun e=>hne (by rw [e];rfl)),hJ]
   have HT1:Hid (printP b=(headP [98,111,100,121] b ++ regsP b.regions) ++ rR2 b):=aF (by rw [HT0.out,rR1,bM]);have hzl:=eU HT1.out HZ2.out;rw [hrg] at hzl;simp only [bB,bK,bP] at hzl;have HB9:Hid (headP [98,111,100,121] b ++ regsP b.regions=headP [98,111,100,121] b ++ (ind 1 ++ ([114,101,103,105,111,110,115,32] ++ J ++ [59,10]))):=aF (by rw [hrg,show ind 1=[32,32] from rfl,semP];simp)
   have HJ:=aF (fun (W:World) (hb:Below w.heap.size w W)=>yT (fun r=>39 :: bl r) b.regions A1 c1 W (HH.out.reg.keep RN.keeps hb) (by rw [hJ];show J.length<=_;omega) (by have:=HDK.out.nreg;omega) (fun r hr X hX=>vM r X (by
    have h:=oR (l:=b.regions.map (fun r=>39 :: bl r)) (39 :: bl r) (List.mem_map.2 ⟨r,hr,rfl⟩);rw [hJ] at h;show (39 :: bl r).length<=_
    omega)))
   rw [hJ] at HJ;have hz2:¬(9223372036854775807<J.length+1):=by omega
   have hz3:(headP [98,111,100,121] b).length+J.length+200<=140737488355328:=by omega
   clear hzl hrg hJ;go_wp2_with fail
   refine cO (S:=fun X=>X.heap[w.heap.size]?=some (.cells ((bdM b A1 c1 A2 c2 A3 c3 A4 c4 A5 c5 [])).toArray 28 (0,0))/\X.heap[g+1]?=some (.cells [Value.pointer (some ⟨g,0,none⟩)].toArray 66 (0,0))) [0,1,2,3,4,5,6] (by kernel_rfl) ?_;have hS:w2.drew.heap[w.heap.size]?=some (.cells ((bdM b A1 c1 A2 c2 A3 c3 A4 c4 A5 c5 [])).toArray 28 (0,0))/\w2.drew.heap[g+1]?=some (.cells [Value.pointer (some ⟨g,0,none⟩)].toArray 66 (0,0)):=⟨HP1.out.bd,HP1.out.pc⟩;have HPD:=aF (HP1.out.keep (aX _ _).drew);(iterate 3 (refine cP (v:=?_) ?_ hS ?_;rotate_left;(next=>(rintro X ⟨hX,hQ⟩;have s1:=cW hX 1 _ rfl;have q0:=cW hQ 0 _ rfl;(try simp only [aI]);go_simp;rfl));simp only [aM]));(refine cS (fun K1 hK1=>?_);simp only [aM];rw [bA (by rfl)];go_simp);refine (HJ.out _ HPD.out.L.low).mono ?_;rintro e' w3 ⟨rfl,hw3⟩;replace hS:=bJ (cR hS.1 hw3) (cR hS.2 hw3);have HP3:=aF (HPD.out.keep hw3);clear hw3;refine hK1.out _ _ (fun _=>hS) ?_;refine cY (v:=tx (J ++ [59])) (by kernel_rfl) (fun _ _ _ h=>h) (Or.inl ⟨by rfl,?_⟩) hS ?_
   ·rintro X hX;(try simp only [aI]);go_simp;exact (ba_app' _ _).trans (by simp [bl])
   (simp only [aM]);(refine cS (fun K1 hK1=>?_);simp only [aM];rw [bA (by rfl)];go_simp);have hbw:=(aX w3.heap.size w3).alloc (aY _) (.cells #[tx [114,101,103,105,111,110,115],tx (J ++ [59])] 9);replace hS:=bJ (cR hS.1 hbw) (cR hS.2 hbw);have HPR:=aF (HP3.out.keep hbw);clear hbw;refine hK1.out _ _ (fun _=>hS) ?_;(refine cS (fun K1 hK1=>?_);simp only [aM];rw [bA (by rfl)];go_simp);refine (eA HPR.out.L [[114,101,103,105,111,110,115],J ++ [59]] ([114,101,103,105,111,110,115,32] ++ J) _ (dU w3 [[114,101,103,105,111,110,115],J ++ [59]]) (by rw [join2];simp) (by decide) (by simp) (by simp only [bB,bK,bP];omega)).mono ?_;rintro e' w9 ⟨rfl,hl4,hf4⟩;have HPL:=aF (HPR.out.fr hl4 hf4);replace hS:=bJ HPL.out.bd HPL.out.pc;clear hl4;refine hK1.out _ _ (fun _=>hS) ?_;refine cZ ?_;go_wp2_with fail
   go_meet;exact ⟨_,HT1.out,by rw [HB9.out];exact HPL.out⟩
 case rest=>
 obtain ⟨bs,hT1,hP1⟩:=hcut;have HT:=aF hT1;have HP:=aF hP1;clear hT1 hP1 HL0 HT0 HP0 HB1;have hcc:=bJ (cW (l:=(bdM b A1 c1 A2 c2 A3 c3 A4 c4 A5 c5 [])) HP.out.bd) (cW HP.out.pc 0 _ rfl);obtain ⟨-,y1,y2,y3,y4,y5,y6⟩:=aS hcc.1;have yp:=hcc.2;clear hcc;go_upto_if 40 with fail
 go_cut [] (fun wx=>∃bs,printP b=bs ++ rR3 b 0/\PW w w.heap.size g b ⟨A1,c1,A2,c2,A3,c3,A4,c4,A5,c5⟩ bs 1 wx)
 case first=>
  by_cases hne:b.outl.length=0
  ·have he:b.outl=[]:=bV hne;have hnp:¬0<b.outl.length:=by omega
   have HE0:=aF he;clear he hne;go_wp2_with fail
   go_meet;exact ⟨_,by rw [HT.out,rR2,HE0.out];rfl,HP.out⟩
  ·have hpos:0<b.outl.length:=by omega
   obtain ⟨J,hJ⟩:∃J,comP (b.outl.map (outP b.regions))=J:=⟨_,rfl⟩;have hrg:outsP b.regions b.outl=[32,32,111,117,116,108,105,118,101,115,32] ++ J ++ semP:=by unfold outsP;rw [aZ (fun e=>hne (by rw [e];rfl)),hJ]
   have HT1:Hid (printP b=(bs ++ outsP b.regions b.outl) ++ rR3 b 0):=aF (by rw [HT.out,rR2,bM]);have hzl:=eU HT1.out HZ2.out;rw [hrg] at hzl;simp only [bB,bK,bP] at hzl;have HB9:Hid (bs ++ outsP b.regions b.outl=bs ++ (ind 1 ++ ([111,117,116,108,105,118,101,115,32] ++ J ++ [59,10]))):=aF (by rw [hrg,show ind 1=[32,32] from rfl,semP];simp);have hz2:¬(9223372036854775807<J.length+1):=by omega
   have hz3:bs.length+J.length+200<=140737488355328:=by omega
   have HPD:=aF (HP.out.keep (aX _ _).drew)
   have HJ:=aF (yU (g+1) (outP b.regions) b.outl A2 c2 wc.drew (HH.out.out.keep RPr.keeps HPD.out.L.low) (by rw [hJ];show J.length<=_;omega) (by have:=HDK.out.nout;omega) (fun x hx X hX=>vL (HPD.out.L.ctx.keep hX) (cM hX HPD.out.cells.2) x (HOK.out.out x hx) (by
    have h:=oR (l:=b.outl.map (outP b.regions)) (outP b.regions x) (List.mem_map.2 ⟨x,hx,rfl⟩);rw [hJ] at h;show (outP b.regions x).length<=_
    omega)))
   rw [hJ] at HJ;clear hzl hrg hJ;go_wp2_with fail
   refine cO (S:=fun X=>X.heap[w.heap.size]?=some (.cells ((bdM b A1 c1 A2 c2 A3 c3 A4 c4 A5 c5 [])).toArray 28 (0,0))/\X.heap[g+1]?=some (.cells [Value.pointer (some ⟨g,0,none⟩)].toArray 66 (0,0))) [0,1,2,3,4,5,6,7] (by kernel_rfl) ?_;have hS:wc.drew.heap[w.heap.size]?=some (.cells ((bdM b A1 c1 A2 c2 A3 c3 A4 c4 A5 c5 [])).toArray 28 (0,0))/\wc.drew.heap[g+1]?=some (.cells [Value.pointer (some ⟨g,0,none⟩)].toArray 66 (0,0)):=⟨HP.out.bd,HP.out.pc⟩;(iterate 4 (refine cP (v:=?_) ?_ hS ?_;rotate_left;(next=>(rintro X ⟨hX,hQ⟩;have s2:=cW hX 2 _ rfl;have q0:=cW hQ 0 _ rfl;(try simp only [aI]);go_simp;rfl));simp only [aM]));(refine cS (fun K1 hK1=>?_);simp only [aM];rw [bA (by rfl)];go_simp);refine (HJ.out).mono ?_;rintro e' w3 ⟨rfl,hw3⟩;replace hS:=bJ (cR hS.1 hw3) (cR hS.2 hw3);have HP3:=aF (HPD.out.keep hw3);clear hw3;refine hK1.out _ _ (fun _=>hS) ?_;refine cY (v:=tx (J ++ [59])) (by kernel_rfl) (fun _ _ _ h=>h) (Or.inl ⟨by rfl,?_⟩) hS ?_
   ·rintro X hX;(try simp only [aI]);go_simp;exact (ba_app' _ _).trans (by simp [bl])
   (simp only [aM]);(refine cS (fun K1 hK1=>?_);simp only [aM];rw [bA (by rfl)];go_simp);have hbw:=(aX w3.heap.size w3).alloc (aY _) (.cells #[tx [111,117,116,108,105,118,101,115],tx (J ++ [59])] 9);replace hS:=bJ (cR hS.1 hbw) (cR hS.2 hbw);have HPR:=aF (HP3.out.keep hbw);clear hbw;refine hK1.out _ _ (fun _=>hS) ?_;(refine cS (fun K1 hK1=>?_);simp only [aM];rw [bA (by rfl)];go_simp);refine (eA HPR.out.L [[111,117,116,108,105,118,101,115],J ++ [59]] ([111,117,116,108,105,118,101,115,32] ++ J) _ (dU w3 [[111,117,116,108,105,118,101,115],J ++ [59]]) (by rw [join2];simp) (by decide) (by simp) (by simp only [bB,bK,bP];omega)).mono ?_;rintro e' w9 ⟨rfl,hl4,hf4⟩;have HPL:=aF (HPR.out.fr hl4 hf4);replace hS:=bJ HPL.out.bd HPL.out.pc;clear hl4;refine hK1.out _ _ (fun _=>hS) ?_;refine cZ ?_;go_wp2_with fail
   go_meet;exact ⟨_,HT1.out,by rw [HB9.out];exact HPL.out⟩
 case rest=>
 obtain ⟨bs2,hT1,hP1⟩:=hcut;clear HT HP y1 y2 y3 y4 y5 y6 yp;have HT:=aF hT1;have HP:=aF hP1;clear hT1 hP1;have hcc:=bJ (cW (l:=(bdM b A1 c1 A2 c2 A3 c3 A4 c4 A5 c5 [])) HP.out.bd) (cW HP.out.pc 0 _ rfl);obtain ⟨-,y1,y2,y3,y4,y5,y6⟩:=aS hcc.1;have yp:=hcc.2;clear hcc;go_upto_block 0 with fail
 go_cut [] (fun wx=>∃bs,printP b=bs ++ rR4 b 0/\PW w w.heap.size g b ⟨A1,c1,A2,c2,A3,c3,A4,c4,A5,c5⟩ bs 1 wx)
 case first=>
  go_wp2_with fail
  go_loopw [5,6,52] (fun a q i wr=>∃(k:Nat) (bs:List UInt8),i = .int .i64 k/\k<=b.types.length/\a=a/\q=q/\Hid (printP b=bs ++ rR3 b k)/\Hid (PW w w.heap.size g b ⟨A1,c1,A2,c2,A3,c3,A4,c4,A5,c5⟩ bs 1 wr)) (fun _ _ i _=>b.types.length - (intOf i).toNat)
  case atStart=>exact ⟨0,bs2,rfl,Nat.zero_le _,rfl,rfl,HT,HP⟩
  case round=>
   clear HT HP y1 y2 y3 y4 y5 y6 yp;obtain ⟨k,bs,rfl,hk,_,_,HT,HP⟩:=hrel;by_cases hlt:k<b.types.length
   case neg=>
    have HE:=aF (xFH (b:=b) (i:=k) (by omega));go_wp2_with fail
    go_meet;exact ⟨bs,by rw [HT.out,HE.out],HP.out⟩
   case pos=>
    obtain ⟨bb,oo,rfl,hbb,y⟩:=(HH.out.typ.keep RTy.keeps HP.out.L.low).sl.at_ hlt;have HTN:=aF (HT.out.trans (by rw [xCC hlt]));have HOT:=aF (HOK.out.ty _ (bN hlt));have HFT:=aF (HF.out.ty _ (bN hlt));have HGT:=aF (HDK.out.good k hlt);obtain ⟨t,ht⟩:∃t,b.types[k]=t:=⟨_,rfl⟩;rw [ht] at HTN HOT HFT HGT y;clear ht HT;obtain ⟨g1,g2,g3,g4,FA,fc,g5,hfl,hfm,hfs⟩:=y
    have hfl1:t.flds.length<=1000000:=by
     by_cases h4:t.kind=4
     ·have:=HGT.out.2.2.2.2.1 h4;omega
     ·rw [HGT.out.2.2.2.2.2 h4];simp
    have HSF:Hid (Slc 1 RInt wr FA fc t.flds):=aF ⟨hfs,hfl,hfm⟩;clear hfs;obtain ⟨T1,hT1⟩:∃T1,typeP b.regions t=T1:=⟨_,rfl⟩;obtain ⟨ix,hix⟩:∃ix,idxP 35 (k:Int)=ix:=⟨_,rfl⟩;have HTX:Hid (printP b=(bs ++ (ind 1 ++ ([116,121,112,101,32] ++ ix ++ [32,61,32] ++ T1 ++ [59,10]))) ++ rR3 b (k+1)):=aF (by rw [HTN.out,gU,hT1,hix,show ind 1=[32,32] from rfl,semP];simp);have hzl:=eU HTX.out HZ2.out;simp only [bB,bK,bP] at hzl;have hz2:¬(9223372036854775807<T1.length+1):=(by omega);have hz3:bs.length+ix.length+T1.length+300<=140737488355328:=by omega
    have HIX:Hid (∀W,Below w.heap.size w W->Calls Tryz.prog 34 #[.string ⟨#[35]⟩,.int .i64 k] W fun e' w'=>e' = .returned (tx ix)/\Below W.heap.size W w'):=aF (fun W hb=>by
     rw [<- hix]
     exact index_any' [35] (k:Int) (by omega) (by omega) (by simp) W (HPOW.out.keep hb))
    have HTY:Hid (∀W,Below wr.heap.size wr W->Calls Tryz.prog 35 #[.pointer (some ⟨g,0,none⟩),.agg #[.int .i64 t.kind,.bool t.mu,.int .i64 t.reg,.int .i64 t.elem,.slice FA t.flds.length fc]] W fun e' w'=>e' = .returned (tx T1)/\Below W.heap.size W w'):=aF (fun W hb=>by
     rw [<- hT1]
     exact xU (HP.out.keep hb).L.ctx t FA fc (HSF.out.keep RInt.keeps hb) HOT.out HFT.out (by rw [hT1];show T1.length<=_;omega) hfl1)
    clear hzl hT1 hix HTN HOT HFT HGT HSF;obtain ⟨tk,tm,tr,te,tf⟩:=t;simp only at g1 g2 g3 g4 g5 HTY hfl hfl1;have hcc:=bJ (cW (l:=(bdM b A1 c1 A2 c2 (some ⟨bb,oo,none⟩) c3 A4 c4 A5 c5 [])) HP.out.bd) (cW HP.out.pc 0 _ rfl);obtain ⟨-,y1,y2,y3,y4,y5,y6⟩:=aS hcc.1;have yp:=hcc.2;clear hcc;have hbw0:=aF ((aX wr.heap.size wr).alloc (aY _) (.cells #[Value.int .i64 tk,.bool tm,.int .i64 tr,.int .i64 te,.slice FA tf.length fc] 81));have hn0:w.heap.size<wr.heap.size:=cD wr _ y1;have hg0:g+1<wr.heap.size:=cD wr _ yp;have hbox:g≠wr.heap.size:=(by omega);have hk1:(k:Int)+1<=9223372036854775807:=(by omega);have hbs:=dA hbb;go_wp2_with fail
    have HPD:=aF (HP.out.keep (hbw0.out.drew));refine cO (S:=fun X=>X.heap[w.heap.size]?=some (.cells ((bdM b A1 c1 A2 c2 (some ⟨bb,oo,none⟩) c3 A4 c4 A5 c5 [])).toArray 28 (0,0))/\X.heap[g+1]?=some (.cells [Value.pointer (some ⟨g,0,none⟩)].toArray 66 (0,0))/\X.heap[wr.heap.size]?=some (.cells ([Value.int .i64 tk,.bool tm,.int .i64 tr,.int .i64 te,.slice FA tf.length fc]).toArray 81 (0,0))) [0,1,3,4,2,5,6,7,8] (by kernel_rfl) ?_;have hS:(wr.alloc (.cells #[Value.int .i64 tk,.bool tm,.int .i64 tr,.int .i64 te,.slice FA tf.length fc] 81)).drew.heap[w.heap.size]?=some (.cells ((bdM b A1 c1 A2 c2 (some ⟨bb,oo,none⟩) c3 A4 c4 A5 c5 [])).toArray 28 (0,0))/\(wr.alloc (.cells #[Value.int .i64 tk,.bool tm,.int .i64 tr,.int .i64 te,.slice FA tf.length fc] 81)).drew.heap[g+1]?=some (.cells [Value.pointer (some ⟨g,0,none⟩)].toArray 66 (0,0))/\(wr.alloc (.cells #[Value.int .i64 tk,.bool tm,.int .i64 tr,.int .i64 te,.slice FA tf.length fc] 81)).drew.heap[wr.heap.size]?=some (.cells ([Value.int .i64 tk,.bool tm,.int .i64 tr,.int .i64 te,.slice FA tf.length fc]).toArray 81 (0,0)):=⟨HPD.out.bd,HPD.out.pc,heap_alloc_new wr _⟩;(iterate 4 (refine cP (v:=?_) ?_ hS ?_;rotate_left;(next=>(rintro X ⟨hX,hQ,hE⟩;have q0:=cW hQ 0 _ rfl;have e0:=cW hE 0 _ rfl;have e1:=cW hE 1 _ rfl;have e2:=cW hE 2 _ rfl;have e3:=cW hE 3 _ rfl;have e4:=cW hE 4 _ rfl;(try simp only [aI]);go_simp;rfl));simp only [aM]));(refine cS (fun K1 hK1=>?_);simp only [aM];rw [bA (by rfl)];go_simp);refine (HIX.out _ HPD.out.L.low).mono ?_;rintro e' w3 ⟨rfl,hw3⟩;replace hS:=bJ (cR hS.1 hw3) (bJ (cR hS.2.1 hw3) (cR hS.2.2 hw3));have HP3:=aF (HPD.out.keep hw3);have HW3:=aF (hbw0.out.drew.trans (hw3.mono hbw0.out.drew.size));clear hw3;refine hK1.out _ _ (fun _=>hS) ?_;(refine cS (fun K1 hK1=>?_);simp only [aM];rw [bA (by rfl)];go_simp);refine (HTY.out _ HW3.out).mono ?_;rintro e' w4 ⟨rfl,hw4⟩;replace hS:=bJ (cR hS.1 hw4) (bJ (cR hS.2.1 hw4) (cR hS.2.2 hw4));have HP4:=aF (HP3.out.keep hw4);clear hw4;refine hK1.out _ _ (fun _=>hS) ?_;refine cY (v:=tx (T1 ++ [59])) (by kernel_rfl) (fun _ _ _ h=>h) (Or.inl ⟨by rfl,?_⟩) hS ?_
    ·rintro X hX;(try simp only [aI]);go_simp;exact (ba_app' _ _).trans (by simp [bl])
    (simp only [aM]);(refine cS (fun K1 hK1=>?_);simp only [aM];rw [bA (by rfl)];go_simp);have hbw:=(aX w4.heap.size w4).alloc (aY _) (.cells #[tx [116,121,112,101],tx ix,tx [61],tx (T1 ++ [59])] 9);replace hS:=bJ (cR hS.1 hbw) (bJ (cR hS.2.1 hbw) (cR hS.2.2 hbw));have HPR:=aF (HP4.out.keep hbw);clear hbw;refine hK1.out _ _ (fun _=>hS) ?_;(refine cS (fun K1 hK1=>?_);simp only [aM];rw [bA (by rfl)];go_simp);refine (eA HPR.out.L [[116,121,112,101],ix,[61],T1 ++ [59]] ([116,121,112,101,32] ++ ix ++ [32,61,32] ++ T1) _ (dU w4 [[116,121,112,101],ix,[61],T1 ++ [59]]) (by rw [join4];simp) (by decide) (by simp) (by simp only [bB,bK,bP];omega)).mono ?_;rintro e' w9 ⟨rfl,hl4,hf4⟩;have HPL:=aF (HPR.out.fr hl4 hf4);replace hS:=bJ HPL.out.bd (bJ HPL.out.pc (heap_fr hS.2.2 hf4 hbox (by decide)));clear hl4;refine hK1.out _ _ (fun _=>hS) ?_;refine cZ ?_;go_wp2_with fail
    go_roundw
    case rel=>exact ⟨k+1,_,by go_num,by omega,trivial,trivial,HTX,HPL⟩
    case measure=>simp [intOf];omega
 case rest=>
 obtain ⟨bs3,hT1,hP1⟩:=hcut;clear HT HP y1 y2 y3 y4 y5 y6 yp;have HT:=aF hT1;have HP:=aF hP1;clear hT1 hP1;have hcc:=bJ (cW (l:=(bdM b A1 c1 A2 c2 A3 c3 A4 c4 A5 c5 [])) HP.out.bd) (cW HP.out.pc 0 _ rfl);obtain ⟨-,y1,y2,y3,y4,y5,y6⟩:=aS hcc.1;have yp:=hcc.2;clear hcc;go_upto_block 2 with fail
 go_cut [] (fun wx=>∃bs,printP b=bs ++ rR5 b 0/\PW w w.heap.size g b ⟨A1,c1,A2,c2,A3,c3,A4,c4,A5,c5⟩ bs 1 wx)
 case first=>
  go_wp2_with fail
  go_loopw [7,8,9,70] (fun a q wo i wr=>∃(k:Nat) (bs:List UInt8),i = .int .i64 k/\k<=b.locals.length/\a=a/\q=q/\wo=wo/\Hid (printP b=bs ++ rR4 b k)/\Hid (PW w w.heap.size g b ⟨A1,c1,A2,c2,A3,c3,A4,c4,A5,c5⟩ bs 1 wr)) (fun _ _ _ i _=>b.locals.length - (intOf i).toNat)
  case atStart=>exact ⟨0,bs3,rfl,Nat.zero_le _,rfl,rfl,rfl,HT,HP⟩
  case round=>
   clear HT HP y1 y2 y3 y4 y5 y6 yp;obtain ⟨k,bs,rfl,hk,_,_,_,HT,HP⟩:=hrel;by_cases hlt:k<b.locals.length
   case neg=>
    have HE:=aF (xFG (b:=b) (i:=k) (by omega));go_wp2_with fail
    go_meet;exact ⟨bs,by rw [HT.out,HE.out],HP.out⟩
   case pos=>
    obtain ⟨bb,oo,rfl,hbb,y⟩:=(HH.out.loc.keep RLc.keeps HP.out.L.low).sl.at_ hlt;have HTN:=aF (HT.out.trans (by rw [xCB hlt]));have HFT:=aF (HF.out.lc _ (bN hlt));obtain ⟨t,ht⟩:∃t,b.locals[k]=t:=⟨_,rfl⟩;rw [ht] at HTN HFT y;clear ht HT;obtain ⟨ln,lt⟩:=t;obtain ⟨g1,g2⟩:=y;simp only at g1 g2 HFT;obtain ⟨nm,hnm⟩:∃nm:List UInt8,bl ln=nm:=⟨_,rfl⟩;have hln:ln=⟨nm.toArray⟩:=(by rw [<- hnm]);obtain ⟨ix,hix⟩:∃ix,idxP 35 lt=ix:=⟨_,rfl⟩;obtain ⟨wd,hwd⟩:∃wd,wordP (decide ((k:Int)<b.args))=wd:=⟨_,rfl⟩;have hwl:wd.length=3:=by rw [<- hwd];cases decide ((k:Int)<b.args) <;> rfl
    have HTX:Hid (printP b=(bs ++ (ind 1 ++ (wd ++ [32,37] ++ nm ++ [58,32] ++ ix ++ [59,10]))) ++ rR4 b (k+1)):=aF (by rw [HTN.out,lcLine];simp only;rw [hnm,hix,hwd,show ind 1=[32,32] from rfl,semP];simp);have hzl:=eU HTX.out HZ2.out;simp only [bB,bK,bP] at hzl;have hz2:¬(9223372036854775807<1+nm.length):=(by omega);have hz3:¬(9223372036854775807<nm.length+1+1):=(by omega);have hz4:¬(9223372036854775807<ix.length+1):=(by omega);have hz5:bs.length+ix.length+nm.length+300<=140737488355328:=by omega
    have HIX:Hid (∀W,Below w.heap.size w W->Calls Tryz.prog 34 #[.string ⟨#[35]⟩,.int .i64 lt] W fun e' w'=>e' = .returned (tx ix)/\Below W.heap.size W w'):=aF (fun W hb=>by
     rw [<- hix]
     exact index_any' [35] lt HFT.out.1 HFT.out.2 (by simp) W (HPOW.out.keep hb))
    have HWD:Hid (((k:Int)<b.args/\wd=[97,114,103])\/(¬(k:Int)<b.args/\wd=[108,101,116])):=aF (by
     rw [<- hwd];by_cases h:(k:Int)<b.args
     ·exact .inl ⟨h,by rw [decide_eq_true h];rfl⟩
     ·exact .inr ⟨h,by rw [decide_eq_false h];rfl⟩)
    subst hln;clear hzl hix HTN HFT hnm hwd;have hcc:=bJ (cW (l:=(bdM b A1 c1 A2 c2 A3 c3 (some ⟨bb,oo,none⟩) c4 A5 c5 [])) HP.out.bd) (cW HP.out.pc 0 _ rfl);obtain ⟨-,y1,y2,y3,y4,y5,y6⟩:=aS hcc.1;have yp:=hcc.2;clear hcc;have hbw0:=aF ((aX wr.heap.size wr).alloc (aY _) (.cells #[Value.string ⟨nm.toArray⟩,.int .i64 lt] 48));have hn0:w.heap.size<wr.heap.size:=cD wr _ y1;have hg0:g+1<wr.heap.size:=cD wr _ yp;have hbox:g≠wr.heap.size:=(by omega);have hk1:(k:Int)+1<=9223372036854775807:=(by omega);have hbs:=dA hbb;rcases HWD.out with ⟨hka,hwv⟩ | ⟨hka,hwv⟩
    all_goals
     have HWV:=aF hwv;clear hwv;go_wp2_with fail
     have HPD:=aF (HP.out.keep (hbw0.out.drew));refine cO (S:=fun X=>X.heap[w.heap.size]?=some (.cells ((bdM b A1 c1 A2 c2 A3 c3 (some ⟨bb,oo,none⟩) c4 A5 c5 [])).toArray 28 (0,0))/\X.heap[g+1]?=some (.cells [Value.pointer (some ⟨g,0,none⟩)].toArray 66 (0,0))/\X.heap[wr.heap.size]?=some (.cells ([Value.string ⟨nm.toArray⟩,.int .i64 lt]).toArray 48 (0,0))) [0,1,2,3,4,5,6,7,8,9,10,11] (by kernel_rfl) ?_;have hS:(wr.alloc (.cells #[Value.string ⟨nm.toArray⟩,.int .i64 lt] 48)).drew.heap[w.heap.size]?=some (.cells ((bdM b A1 c1 A2 c2 A3 c3 (some ⟨bb,oo,none⟩) c4 A5 c5 [])).toArray 28 (0,0))/\(wr.alloc (.cells #[Value.string ⟨nm.toArray⟩,.int .i64 lt] 48)).drew.heap[g+1]?=some (.cells [Value.pointer (some ⟨g,0,none⟩)].toArray 66 (0,0))/\(wr.alloc (.cells #[Value.string ⟨nm.toArray⟩,.int .i64 lt] 48)).drew.heap[wr.heap.size]?=some (.cells ([Value.string ⟨nm.toArray⟩,.int .i64 lt]).toArray 48 (0,0)):=⟨HPD.out.bd,HPD.out.pc,heap_alloc_new wr _⟩;(iterate 4 (refine cP (v:=?_) ?_ hS ?_;rotate_left;(next=>(rintro X ⟨hX,hQ,hE⟩;have q0:=cW hQ 0 _ rfl;have e0:=cW hE 0 _ rfl;have e1:=cW hE 1 _ rfl;(try simp only [aI]);go_simp;rfl));simp only [aM]));refine cY (v:=tx (37 :: nm)) (by kernel_rfl) (fun _ _ _ h=>h) (Or.inl ⟨by rfl,?_⟩) hS ?_
     ·rintro X hX;(try simp only [aI]);go_simp;exact (ba_app' _ _).trans (by simp [bl])
     (simp only [aM]);refine cY (v:=tx (37 :: (nm ++ [58]))) (by kernel_rfl) (fun _ _ _ h=>h) (Or.inl ⟨by rfl,?_⟩) hS ?_
     ·rintro X hX;(try simp only [aI]);go_simp;exact (ba_app' _ _).trans (by simp [bl])
     (simp only [aM]);(iterate 2 (refine cP (v:=?_) ?_ hS ?_;rotate_left;(next=>(rintro X ⟨hX,hQ,hE⟩;have q0:=cW hQ 0 _ rfl;have e0:=cW hE 0 _ rfl;have e1:=cW hE 1 _ rfl;(try simp only [aI]);go_simp;rfl));simp only [aM]));(refine cS (fun K1 hK1=>?_);simp only [aM];rw [bA (by rfl)];go_simp);refine (HIX.out _ HPD.out.L.low).mono ?_;rintro e' w3 ⟨rfl,hw3⟩;replace hS:=bJ (cR hS.1 hw3) (bJ (cR hS.2.1 hw3) (cR hS.2.2 hw3));have HP3:=aF (HPD.out.keep hw3);clear hw3;refine hK1.out _ _ (fun _=>hS) ?_;refine cY (v:=tx (ix ++ [59])) (by kernel_rfl) (fun _ _ _ h=>h) (Or.inl ⟨by rfl,?_⟩) hS ?_
     ·rintro X hX;(try simp only [aI]);go_simp;exact (ba_app' _ _).trans (by simp [bl])
     (simp only [aM])
    ·(refine cS (fun K1 hK1=>?_);simp only [aM];rw [bA (by rfl)];go_simp);have hbw:=(aX w3.heap.size w3).alloc (aY _) (.cells #[tx [97,114,103],tx (37 :: (nm ++ [58])),tx (ix ++ [59])] 9);replace hS:=bJ (cR hS.1 hbw) (bJ (cR hS.2.1 hbw) (cR hS.2.2 hbw));have HPR:=aF (HP3.out.keep hbw);clear hbw;refine hK1.out _ _ (fun _=>hS) ?_;(refine cS (fun K1 hK1=>?_);simp only [aM];rw [bA (by rfl)];go_simp);refine (eA HPR.out.L [[97,114,103],37 :: (nm ++ [58]),ix ++ [59]] ([97,114,103] ++ [32,37] ++ nm ++ [58,32] ++ ix) _ (dU w3 [[97,114,103],37 :: (nm ++ [58]),ix ++ [59]]) (by rw [join3];simp) (by decide) (by simp) (by simp only [bB,bK,bP];omega)).mono ?_;rintro e' w9 ⟨rfl,hl4,hf4⟩;have HPL:=aF (HPR.out.fr hl4 hf4);replace hS:=bJ HPL.out.bd (bJ HPL.out.pc (heap_fr hS.2.2 hf4 hbox (by decide)));clear hl4;refine hK1.out _ _ (fun _=>hS) ?_;refine cZ ?_;go_wp2_with fail
     go_roundw
     case rel=>exact ⟨k+1,_,by go_num,by omega,trivial,trivial,trivial,HTX,by rw [HWV.out];exact HPL⟩
     case measure=>simp [intOf];omega
    ·(refine cS (fun K1 hK1=>?_);simp only [aM];rw [bA (by rfl)];go_simp);have hbw:=(aX w3.heap.size w3).alloc (aY _) (.cells #[tx [108,101,116],tx (37 :: (nm ++ [58])),tx (ix ++ [59])] 9);replace hS:=bJ (cR hS.1 hbw) (bJ (cR hS.2.1 hbw) (cR hS.2.2 hbw));have HPR:=aF (HP3.out.keep hbw);clear hbw;refine hK1.out _ _ (fun _=>hS) ?_;(refine cS (fun K1 hK1=>?_);simp only [aM];rw [bA (by rfl)];go_simp);refine (eA HPR.out.L [[108,101,116],37 :: (nm ++ [58]),ix ++ [59]] ([108,101,116] ++ [32,37] ++ nm ++ [58,32] ++ ix) _ (dU w3 [[108,101,116],37 :: (nm ++ [58]),ix ++ [59]]) (by rw [join3];simp) (by decide) (by simp) (by simp only [bB,bK,bP];omega)).mono ?_;rintro e' w9 ⟨rfl,hl4,hf4⟩;have HPL:=aF (HPR.out.fr hl4 hf4);replace hS:=bJ HPL.out.bd (bJ HPL.out.pc (heap_fr hS.2.2 hf4 hbox (by decide)));clear hl4;refine hK1.out _ _ (fun _=>hS) ?_;refine cZ ?_;go_wp2_with fail
     go_roundw
     case rel=>exact ⟨k+1,_,by go_num,by omega,trivial,trivial,trivial,HTX,by rw [HWV.out];exact HPL⟩
     case measure=>simp [intOf];omega
 case rest=>
 obtain ⟨bs4,hT1,hP1⟩:=hcut;clear HT HP y1 y2 y3 y4 y5 y6 yp;have HT:=aF hT1;have HP:=aF hP1;clear hT1 hP1;have hcc:=bJ (cW (l:=(bdM b A1 c1 A2 c2 A3 c3 A4 c4 A5 c5 [])) HP.out.bd) (cW HP.out.pc 0 _ rfl);obtain ⟨-,y1,y2,y3,y4,y5,y6⟩:=aS hcc.1;have yp:=hcc.2;clear hcc;go_upto_block 4 with fail
 go_cut [] (fun wx=>∃bs,printP b=bs ++ rR6/\PW w w.heap.size g b ⟨A1,c1,A2,c2,A3,c3,A4,c4,A5,c5⟩ bs 1 wx)
 case first=>
  go_wp2_with fail
  go_loopw [10,11,13,95] (fun a q st i wr=>∃(k:Nat) (bs:List UInt8),i = .int .i64 k/\k<=b.blocks.length/\a=a/\q=q/\st=st/\Hid (printP b=bs ++ rR5 b k)/\Hid (PW w w.heap.size g b ⟨A1,c1,A2,c2,A3,c3,A4,c4,A5,c5⟩ bs 1 wr)) (fun _ _ _ i _=>b.blocks.length - (intOf i).toNat)
  case atStart=>exact ⟨0,bs4,rfl,Nat.zero_le _,rfl,rfl,rfl,HT,HP⟩
  case round=>
   clear HT HP y1 y2 y3 y4 y5 y6 yp;obtain ⟨k,bs,rfl,hk,_,_,_,HT,HP⟩:=hrel;by_cases hlt:k<b.blocks.length
   case neg=>
    have HE:=aF (xFF (b:=b) (i:=k) (by omega));go_wp2_with fail
    go_meet;exact ⟨bs,by rw [HT.out,HE.out],HP.out⟩
   case pos=>
    obtain ⟨bb,oo,rfl,hbb,y⟩:=HH.out.blk.sl.at_ hlt;have HTN:=aF (HT.out.trans (by rw [xCA hlt]));have HOB:=aF (HOK.out.bk _ (bN hlt));have HFS:=aF (HF.out.st _ (bN hlt));have HFM:=aF (HF.out.tm _ (bN hlt));have HBK:=aF (ybk (ybks (ychk HCK.out).2 _ (bN hlt)));obtain ⟨t,ht⟩:∃t,b.blocks[k]=t:=⟨_,rfl⟩;rw [ht] at HTN HOB HFS HFM HBK y;clear ht HT;obtain ⟨S1,sc1,S2,sc2,S3,sc3,S4,sc4,h0,h1,h2,h3,h4,h5,h6,q1,q2,q3,q4⟩:=hH y;have hlow:=HP.out.L.low;have g0:=(hlow.cell (p:=⟨bb,oo+k * 7,none⟩) hbb).trans h0;have g1:=(hlow.cell (p:=⟨bb,oo+k * 7+1,none⟩) hbb).trans h1;have g2:=(hlow.cell (p:=⟨bb,oo+k * 7+2,none⟩) hbb).trans h2;have g3:=(hlow.cell (p:=⟨bb,oo+k * 7+3,none⟩) hbb).trans h3;have g4:=(hlow.cell (p:=⟨bb,oo+k * 7+4,none⟩) hbb).trans h4;have g5:=(hlow.cell (p:=⟨bb,oo+k * 7+5,none⟩) hbb).trans h5;have g6:=(hlow.cell (p:=⟨bb,oo+k * 7+6,none⟩) hbb).trans h6;replace hbb:=bO hbb hlow.size;clear h0 h1 h2 h3 h4 h5 h6 hlow;have HQ1:=aF q1;have HQ2:=aF q2;have HQ3:=aF q3;have HQ4:=aF q4;have hsl:=q1.le;have hsb:=q1.big;clear y q1 q2 q3 q4;obtain ⟨ss,tk,tg,ar,⟨tl,tp⟩,tn⟩:=t;simp only at g0 g1 g2 g3 g4 g5 g6 HQ1 HQ2 HQ3 HQ4 HFS HFM HBK hsl;have HSE:=aF (fun s hs=>oG HDK.out.okay (ysts HBK.out.1 s hs));have HTE:=aF (oF HBK.out.2);have HAL:=aF (nP HBK.out.2);have HSA:=aF (fun s (hs:s∈ss)=>pL HDK.out.okay (vV HDK.out) (ysts HBK.out.1 s hs));obtain ⟨ix,hix⟩:∃ix,idxP 94 (k:Int)=ix:=⟨_,rfl⟩
    have HTX:Hid (printP b=(bs ++ (ind 1 ++ (ix ++ [58,32] ++ [123,10]))) ++ (ss.flatMap (dO b.locals b.regions) ++ (([32,32,32,32] ++ termP b.locals ⟨tk,tg,ar,⟨tl,tp⟩,tn⟩ ++ semP) ++ ([32,32,125,10] ++ rR5 b (k+1))))):=aF (by
     rw [HTN.out,fH,hix,show ind 1=[32,32] from rfl];simp)
    have hzl:=eU HTX.out HZ2.out;simp only [bB,bK,bP] at hzl;have hz2:¬(9223372036854775807<ix.length+1):=(by omega);have hz3:bs.length+ix.length+300<=140737488355328:=by omega
    have HIX:Hid (∀W,Below w.heap.size w W->Calls Tryz.prog 34 #[.string ⟨#[94]⟩,.int .i64 k] W fun e' w'=>e' = .returned (tx ix)/\Below W.heap.size W w'):=aF (fun W hb=>by
     rw [<- hix]
     exact index_any' [94] (k:Int) (by omega) (by omega) (by simp) W (HPOW.out.keep hb))
    clear hzl hix HTN HBK HOB;have hcc:=bJ (cW (l:=(bdM b A1 c1 A2 c2 A3 c3 A4 c4 (some ⟨bb,oo,none⟩) c5 [])) HP.out.bd) (cW HP.out.pc 0 _ rfl);obtain ⟨-,y1,y2,y3,y4,y5,y6⟩:=aS hcc.1;have yp:=hcc.2;clear hcc;have hbw0:=aF ((aX wr.heap.size wr).alloc (aY _) (.cells #[Value.slice S1 ss.length sc1,.int .i64 tk,.slice S2 tg.length sc2,.slice S3 ar.length sc3,.int .i64 tl,.slice S4 tp.length sc4,.string tn] 64));have hn0:w.heap.size<wr.heap.size:=cD wr _ y1;have hg0:g+1<wr.heap.size:=cD wr _ yp;have hbox:g≠wr.heap.size:=(by omega);have hk1:(k:Int)+1<=9223372036854775807:=(by omega);have hbs:=dA hbb;go_upto_region 25 with fail
    have HPD:=aF (HP.out.keep (hbw0.out.drew));go_cut [] (fun wx=>∃bs,printP b=bs ++ (ss.flatMap (dO b.locals b.regions) ++ (([32,32,32,32] ++ termP b.locals ⟨tk,tg,ar,⟨tl,tp⟩,tn⟩ ++ semP) ++ ([32,32,125,10] ++ rR5 b (k+1))))/\PW w w.heap.size g b ⟨A1,c1,A2,c2,A3,c3,A4,c4,(some ⟨bb,oo,none⟩),c5⟩ bs 2 wx/\wx.heap[wr.heap.size]?=some (.cells ([Value.slice S1 ss.length sc1,.int .i64 tk,.slice S2 tg.length sc2,.slice S3 ar.length sc3,.int .i64 tl,.slice S4 tp.length sc4,.string tn]).toArray 64 (0,0))/\Below w.heap.size w wx/\Fr g wr wx)
    case first=>
     refine cO (S:=fun X=>X.heap[w.heap.size]?=some (.cells ((bdM b A1 c1 A2 c2 A3 c3 A4 c4 (some ⟨bb,oo,none⟩) c5 [])).toArray 28 (0,0))/\X.heap[g+1]?=some (.cells [Value.pointer (some ⟨g,0,none⟩)].toArray 66 (0,0))/\X.heap[wr.heap.size]?=some (.cells ([Value.slice S1 ss.length sc1,.int .i64 tk,.slice S2 tg.length sc2,.slice S3 ar.length sc3,.int .i64 tl,.slice S4 tp.length sc4,.string tn]).toArray 64 (0,0))) [0,1,2,3,4,5] (by kernel_rfl) ?_;have hS:(wr.alloc (.cells #[Value.slice S1 ss.length sc1,.int .i64 tk,.slice S2 tg.length sc2,.slice S3 ar.length sc3,.int .i64 tl,.slice S4 tp.length sc4,.string tn] 64)).drew.heap[w.heap.size]?=some (.cells ((bdM b A1 c1 A2 c2 A3 c3 A4 c4 (some ⟨bb,oo,none⟩) c5 [])).toArray 28 (0,0))/\(wr.alloc (.cells #[Value.slice S1 ss.length sc1,.int .i64 tk,.slice S2 tg.length sc2,.slice S3 ar.length sc3,.int .i64 tl,.slice S4 tp.length sc4,.string tn] 64)).drew.heap[g+1]?=some (.cells [Value.pointer (some ⟨g,0,none⟩)].toArray 66 (0,0))/\(wr.alloc (.cells #[Value.slice S1 ss.length sc1,.int .i64 tk,.slice S2 tg.length sc2,.slice S3 ar.length sc3,.int .i64 tl,.slice S4 tp.length sc4,.string tn] 64)).drew.heap[wr.heap.size]?=some (.cells ([Value.slice S1 ss.length sc1,.int .i64 tk,.slice S2 tg.length sc2,.slice S3 ar.length sc3,.int .i64 tl,.slice S4 tp.length sc4,.string tn]).toArray 64 (0,0)):=⟨HPD.out.bd,HPD.out.pc,heap_alloc_new wr _⟩;(iterate 2 (refine cP (v:=?_) ?_ hS ?_;rotate_left;(next=>(rintro X ⟨hX,hQ,hE⟩;have q0:=cW hQ 0 _ rfl;(try simp only [aI]);go_simp;rfl));simp only [aM]));(refine cS (fun K1 hK1=>?_);simp only [aM];rw [bA (by rfl)];go_simp);refine (HIX.out _ HPD.out.L.low).mono ?_;rintro e' w3 ⟨rfl,hw3⟩;replace hS:=bJ (cR hS.1 hw3) (bJ (cR hS.2.1 hw3) (cR hS.2.2 hw3));have HP3:=aF (HPD.out.keep hw3);have HF3:=aF ((Fr.of_below (g:=g) (hbw0.out.drew)).trans (Fr.of_below hw3));clear hw3;refine hK1.out _ _ (fun _=>hS) ?_;refine cY (v:=tx (ix ++ [58])) (by kernel_rfl) (fun _ _ _ h=>h) (Or.inl ⟨by rfl,?_⟩) hS ?_
     ·rintro X hX;(try simp only [aI]);go_simp;exact (ba_app' _ _).trans (by simp [bl])
     (simp only [aM]);(refine cS (fun K1 hK1=>?_);simp only [aM];rw [bA (by rfl)];go_simp);have hbw:=(aX w3.heap.size w3).alloc (aY _) (.cells #[tx (ix ++ [58]),tx [123]] 9);replace hS:=bJ (cR hS.1 hbw) (bJ (cR hS.2.1 hbw) (cR hS.2.2 hbw));have HPR:=aF (HP3.out.keep hbw);clear hbw;refine hK1.out _ _ (fun _=>hS) ?_;have HF4:=aF (HF3.out.trans (Fr.of_below (g:=g) ((aX w3.heap.size w3).alloc (aY _) (.cells #[tx (ix ++ [58]),tx [123]] 9))));(refine cS (fun K1 hK1=>?_);simp only [aM];rw [bA (by rfl)];go_simp);refine (oE HPR.out.L [ix ++ [58],[123]] (ix ++ [58,32]) _ (dU w3 [ix ++ [58],[123]]) (by rw [join2];simp) (by decide) (by simp) (by simp only [bB,bK,bP];omega)).mono ?_;rintro e' w9 ⟨rfl,hl4,hf4⟩;have HPL:=aF (HPR.out.fr hl4 hf4);replace hS:=bJ HPL.out.bd (bJ HPL.out.pc (heap_fr hS.2.2 hf4 hbox (by decide)));have HF5:=aF (HF4.out.trans hf4);clear hl4;refine hK1.out _ _ (fun _=>hS) ?_;refine cZ ?_;go_wp2_with fail
     go_meet;exact ⟨_,HTX.out,HPL.out,hS.2.2,HPL.out.L.low,HF5.out⟩
    case rest=>
    obtain ⟨bs5,hT1,hP1,hE1,hB1,hF1⟩:=hcut;have HT:=aF hT1;have HP5:=aF hP1;have HE1:=aF hE1;have ec:=cW hE1;obtain ⟨e0,e1,e2,e3,e4,e5,e6⟩:=aS ec;have HB5:=aF hB1;have HF5:=aF hF1;have yp:=cW HP5.out.pc 0 _ rfl;have hgw:g+1<wc.heap.size:=cD wc _ yp;clear hT1 hP1 hE1 hB1 hF1 ec HTX HPD HIX HP hbw0 y1 y2 y3 y4 y5 y6 g0 g1 g2 g3 g4 g5 g6;go_upto_block 6 with fail
    go_cut [] (fun wx=>∃bs,printP b=bs ++ (([32,32,32,32] ++ termP b.locals ⟨tk,tg,ar,⟨tl,tp⟩,tn⟩ ++ semP) ++ ([32,32,125,10] ++ rR5 b (k+1)))/\PW w w.heap.size g b ⟨A1,c1,A2,c2,A3,c3,A4,c4,(some ⟨bb,oo,none⟩),c5⟩ bs 2 wx/\wx.heap[wr.heap.size]?=some (.cells ([Value.slice S1 ss.length sc1,.int .i64 tk,.slice S2 tg.length sc2,.slice S3 ar.length sc3,.int .i64 tl,.slice S4 tp.length sc4,.string tn]).toArray 64 (0,0))/\Fr g wr wx)
    case first=>
     have hww:wr.heap.size<=wc.heap.size:=HF5.out.size;go_wp2_with fail
     go_loopw [13,109] (fun q i wv=>∃(j:Nat) (bs:List UInt8),i = .int .i64 j/\j<=ss.length/\q=q/\Hid (printP b=bs ++ ((ss.drop j).flatMap (dO b.locals b.regions) ++ (([32,32,32,32] ++ termP b.locals ⟨tk,tg,ar,⟨tl,tp⟩,tn⟩ ++ semP) ++ ([32,32,125,10] ++ rR5 b (k+1)))))/\Hid (PW w w.heap.size g b ⟨A1,c1,A2,c2,A3,c3,A4,c4,(some ⟨bb,oo,none⟩),c5⟩ bs 2 wv)/\Hid (wv.heap[wr.heap.size]?=some (.cells ([Value.slice S1 ss.length sc1,.int .i64 tk,.slice S2 tg.length sc2,.slice S3 ar.length sc3,.int .i64 tl,.slice S4 tp.length sc4,.string tn]).toArray 64 (0,0)))/\Hid (Fr g wr wv)) (fun _ i _=>ss.length - (intOf i).toNat)
     case atStart=>exact ⟨0,bs5,rfl,Nat.zero_le _,rfl,aF (by rw [bX];exact HT.out),HP5,HE1,HF5⟩
     case round=>
      clear HT HP5 HE1 HF5 HB5 e0 e1 e2 e3 e4 e5 e6 yp hgw;obtain ⟨j,bs,rfl,hj,_,HT,HP,HE,HFR⟩:=hrel;by_cases hjl:j<ss.length
      case neg=>
       have HD:Hid (ss.drop j=[]):=aF (bE (by omega));go_wp2_with fail
       go_meet;exact ⟨bs,by rw [HT.out,HD.out];rfl,HP.out,HE.out,HFR.out⟩
      case pos=>
       obtain ⟨b2,o2,rfl,hb2,y⟩:=(HQ1.out.keep RSt.keeps HP.out.L.low).sl.at_ hjl;have HOS:=aF (HSE.out ss[j] (bN hjl));have HFT:=aF (HFS.out ss[j] (bN hjl));have HLN:=aF (HSA.out ss[j] (bN hjl));have HTN:Hid (printP b=(bs ++ dO b.locals b.regions ss[j]) ++ ((ss.drop (j+1)).flatMap (dO b.locals b.regions) ++ (([32,32,32,32] ++ termP b.locals ⟨tk,tg,ar,⟨tl,tp⟩,tn⟩ ++ semP) ++ ([32,32,125,10] ++ rR5 b (k+1))))):=aF (by rw [HT.out,cV hjl,List.flatMap_cons];simp);obtain ⟨s,hs⟩:∃s,ss[j]=s:=⟨_,rfl⟩;rw [hs] at HOS HFT HLN HTN y;clear hs HT;have hzl:=eU HTN.out HZ2.out;obtain ⟨X1,xc1,X2,xc2,X3,xc3,f0,f1,f2,f3,f4,f5,f6,f7,f8,f9,f10,p1,p2,p3⟩:=iV y;clear y;have hbw:=aF ((aX wr.heap.size wr).alloc (aY _) (.cells #[.int .i64 s.kind,.int .i64 s.place.loc,.slice X1 s.place.proj.length xc1,.int .i64 s.rv.kind,.int .i64 s.rv.op,.int .i64 s.rv.reg,.bool s.rv.mu,.int .i64 s.rv.place.loc,.slice X2 s.rv.place.proj.length xc2,.slice X3 s.rv.args.length xc3,.int .i64 s.loc] 87))
       have HSM:=aF (xX (HP.out.keep hbw.out).L s X1 X2 X3 xc1 xc2 xc3 (p1.keep RPj.keeps hbw.out) (p2.keep RPj.keeps hbw.out) (p3.keep ROp.keeps hbw.out) HOS.out HFT.out (by
        simp only [dO,semP,bB,bK,bP] at hzl;omega) HLN.out)
       have yp:=cW HP.out.pc 0 _ rfl;have hgv:g+1<wr.heap.size:=cD wr _ yp;have hj1:(j:Int)+1<=9223372036854775807:=(by omega);have hbs2:=dA hb2;have y0:=cW (l:=[Value.slice (some ⟨b2,o2,none⟩) ss.length sc1,.int .i64 tk,.slice S2 tg.length sc2,.slice S3 ar.length sc3,.int .i64 tl,.slice S4 tp.length sc4,.string tn]) HE.out 0 _ rfl;clear p1 p2 p3 hzl HOS HFT HLN;go_wp2_with (go_at_call 36;refine HSM.out.mono ?_;rintro e' w5 ⟨rfl,hl5,hf5⟩;have HP6:=aF ((HP.out.keep hbw.out).fr hl5 hf5);have HE6:=aF (heap_fr (cR HE.out hbw.out) hf5 hbox (by decide));have HF6:=aF (HFR.out.trans ((Fr.of_below hbw.out).trans hf5));clear hl5 hf5)
       go_roundw
       case rel=>exact ⟨j+1,_,by go_num,by omega,trivial,HTN,HP6,HE6,HF6⟩
       case measure=>simp [intOf];omega
    case rest=>
    obtain ⟨bs6,hT1,hP1,hE1,hF1⟩:=hcut;clear HT HP5 HE1 HF5 HB5 e0 e1 e2 e3 e4 e5 e6 yp hgw;have HT:=aF hT1;have HP:=aF hP1;have ec:=cW hE1;obtain ⟨-,e1,e2,e3,e4,e5,e6⟩:=aS ec;have yp:=cW HP.out.pc 0 _ rfl;clear hT1 hP1 hE1 hF1 ec;have hzl:=eU HT.out HZ2.out;simp only [semP,bB,bK,bP] at hzl;have HTM:=aF (xW HP.out.L ⟨tk,tg,ar,⟨tl,tp⟩,tn⟩ S2 S3 S4 sc2 sc3 sc4 (HQ2.out.keep RInt.keeps HP.out.L.low) (HQ3.out.keep ROp.keeps HP.out.L.low) (HQ4.out.keep RPj.keeps HP.out.L.low) HTE.out HFM.out (by omega) HAL.out);have HTY:Hid (printP b=(bs6 ++ ([32,32,32,32] ++ termP b.locals ⟨tk,tg,ar,⟨tl,tp⟩,tn⟩ ++ semP) ++ (ind 1 ++ [125,10])) ++ rR5 b (k+1)):=aF (by rw [HT.out,show ind 1=[32,32] from rfl];simp)
    have hz4:(bs6 ++ ([32,32,32,32] ++ termP b.locals ⟨tk,tg,ar,⟨tl,tp⟩,tn⟩ ++ semP)).length+100<=140737488355328:=by
     simp only [semP,bB,bK,bP];omega
    have HCL:=aF (fun (W:World) (P:PW w w.heap.size g b ⟨A1,c1,A2,c2,A3,c3,A4,c4,(some ⟨bb,oo,none⟩),c5⟩ (bs6 ++ ([32,32,32,32] ++ termP b.locals ⟨tk,tg,ar,⟨tl,tp⟩,tn⟩ ++ semP)) 2 W)=>mE (P.keep ((aX W.heap.size W).alloc (aY _) (.cells #[tx [125]] 9))).L _ (dU W [[125]]) (by decide) hz4);clear hzl hz4
    go_wp2_with (first
     | (go_at_call 37;refine HTM.out.mono ?_;rintro e' w7 ⟨rfl,hl7,hf7⟩;have HP7:=aF (HP.out.fr hl7 hf7);have yp7:=cW HP7.out.pc 0 _ rfl;clear hl7 hf7)
     | (go_at_call 28;refine (HCL.out _ HP7.out).mono ?_;rintro e' w8 ⟨rfl,hl8,hf8⟩;have HP8:=aF ((HP7.out.keep ((aX w7.heap.size w7).alloc (aY _) (.cells #[tx [125]] 9))).fr hl8 hf8);clear hl8 hf8))
    go_roundw
    case rel=>exact ⟨k+1,_,by go_num,by omega,trivial,trivial,trivial,HTY,HP8⟩
    case measure=>simp [intOf];omega
 case rest=>
 obtain ⟨bs7,hT1,hP1⟩:=hcut;clear HT HP y1 y2 y3 y4 y5 y6 yp;have HT:=aF hT1;have HP:=aF hP1;clear hT1 hP1;have yp:=cW HP.out.pc 0 _ rfl;have hzl:=eU HT.out HZ2.out;have HCL:=aF (mE (HP.out.keep ((aX wc.heap.size wc).alloc (aY _) (.cells #[tx [125]] 9))).L _ (dU wc [[125]]) (by decide) (by omega));have HSTR:=aF (fun (W:World) (P:PW w w.heap.size g b ⟨A1,c1,A2,c2,A3,c3,A4,c4,A5,c5⟩ (bs7 ++ (ind 0 ++ [125,10])) 0 W)=>sL (g+2) g b ⟨A1,c1,A2,c2,A3,c3,A4,c4,A5,c5⟩ (bs7 ++ (ind 0 ++ [125,10])) (0:Nat) W P.L.st (by simp));have HTZ:Hid (printP b=bs7 ++ (ind 0 ++ [125,10])):=aF HT.out;clear hzl
 go_wp2_with (first
  | (go_at_call 28;refine HCL.out.mono ?_;rintro e' w8 ⟨rfl,hl8,hf8⟩;have HP8:=aF ((HP.out.keep ((aX wc.heap.size wc).alloc (aY _) (.cells #[tx [125]] 9))).fr hl8 hf8);have yp8:=cW HP8.out.pc 0 _ rfl;clear hl8 hf8)
  | (go_at_call 38;refine (HSTR.out _ HP8.out).mono ?_;rintro e' w9 ⟨rfl,hb9⟩;have HB9:=aF (HP8.out.L.low.trans (hb9.below HP8.out.L.hg HP8.out.L.st.lt));clear hb9))
 refine bodyPost_ret (v:= .tuple #[tx (bs7 ++ (ind 0 ++ [125,10])),.int .i64 0]) (by simp [results,Tryz.results10,go_sem] <;> rfl) rfl ⟨by rw [HTZ.out],HB9.out⟩
end
end Go.Proofs.YtmknfbfppmkcfaaGreatDoor
