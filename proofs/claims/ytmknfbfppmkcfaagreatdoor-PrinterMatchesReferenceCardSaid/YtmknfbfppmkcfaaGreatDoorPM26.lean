/-
  Parts of the proof: Y32 Y33 Y34 Y35 Y64 JM.
-/
import Derived.Test.YtmknfbfppmkcfaaGreatDoorPM0
import Derived.Test.YtmknfbfppmkcfaaGreatDoorPM14
import Derived.Test.YtmknfbfppmkcfaaGreatDoorPM13
import Derived.Lib.LaidTab
import Derived.JoinedOf
namespace Go.Proofs.YtmknfbfppmkcfaaGreatDoor
set_option maxRecDepth 100000
set_option maxHeartbeats 16000000
section
open Go Go.RowKit
theorem xCH (b:Bdy) (bh:BH) (w:World) (H:BdAt w b bh) (l:List Opd) (A:Option Addr) (c:Nat) (hp:Slc 4 ROp w A c l) (ho:∀o∈l,OkOp b.locals o) (hf:∀o∈l,FitO o) (hz:Sm (opsP b.locals l)):
 Calls Tryz.prog 85 #[.agg (bdC b bh).toArray,.slice A l.length c] w fun e' w'=>e' = .returned (tx (opsP b.locals l))/\Below w.heap.size w w':=by
 have HB0:=aF (fun (o:Obj)=>((aX w.heap.size w).alloc (aY _) o));have HC0:=aF (fun (x:Opd) (hx:x∈l) (hz:Sm (opdP b.locals x)) (W:World) (hb:Below w.heap.size w W) (A0:Option Addr) (c0:Nat) (hs:Slc 2 RPj W A0 c0 x.place.proj)=>xGB b bh W (H.keep hb) x A0 c0 hs (ho x hx) (hf x hx) hz);obtain ⟨A1,c1,A2,c2,A3,c3,A4,c4,A5,c5⟩:=bh;have HC:Hid (∀(x:Opd) (hx:x∈l) (hz:Sm (opdP b.locals x)) (W:World) (hb:Below w.heap.size w W) (A0:Option Addr) (c0:Nat) (hs:Slc 2 RPj W A0 c0 x.place.proj),Calls Tryz.prog 135 #[.agg #[Value.string b.name,.slice A1 b.regions.length c1,.slice A2 b.outl.length c2,.slice A3 b.types.length c3,.slice A4 b.locals.length c4,.int .i64 b.args,.slice A5 b.blocks.length c5],.agg #[.int .i64 x.kind,.int .i64 x.place.loc,.slice A0 x.place.proj.length c0,.int .i64 x.n]] W fun e' w'=>e' = .returned (tx (opdP b.locals x))/\Below W.heap.size W w'):=HC0;have HS:=aF hp;have hle:=hp.le;have hbig:=hp.big;have HN0:=aF (heap_alloc_new w (.cells ([Value.string b.name,.slice A1 b.regions.length c1,.slice A2 b.outl.length c2,.slice A3 b.types.length c3,.slice A4 b.locals.length c4,.int .i64 b.args,.slice A5 b.blocks.length c5]).toArray 28));have HZ:=aF hz;clear HC0 H ho hf hp hz;unfold bdC;go_enter Tryz.func85,Tryz.ntmps85
 go_wp2_with fail
 go_loopw [5,6] (fun s i wr=>∃(j:Nat) (L:List UInt8),i = .int .i64 j/\j<=l.length/\s=tx L/\Hid (L=comP ((l.take j).map (opdP b.locals)))/\Hid (Below w.heap.size w wr)/\Hid (wr.heap[w.heap.size]?=some (.cells ((bdM b A1 c1 A2 c2 A3 c3 A4 c4 A5 c5 [])).toArray 28 (0,0)))) (fun _ i _=>l.length - (intOf i).toNat)
 case atStart=>exact ⟨0,[],rfl,Nat.zero_le _,rfl,aF rfl,aF aH,HN0⟩
 case round=>
  obtain ⟨j,L,rfl,hj,rfl,HL,HB,HBX⟩:=hrel;by_cases hlt:j<l.length
  case neg=>
   have HE:Hid (L=opsP b.locals l):=aF (by rw [HL.out,List.take_of_length_le (by omega)];rfl);clear HL;go_wp2_with fail
   go_ret;exact ⟨by rw [HE.out];rfl,HB.out⟩
  case pos=>
   obtain ⟨bb,oo,rfl,hbb,x0,⟨x1,A0,c0,x2,h3,h4,h5⟩,x6⟩:=(HS.out.keep ROp.keeps HB.out).sl.at_ hlt;have HX:=aF (HC.out l[j] (bN hlt));have HT:Hid ((l.take (j+1)).map (opdP b.locals)=(l.take j).map (opdP b.locals) ++ [opdP b.locals l[j]]):=aF (by rw [bF hlt,bU];rfl)
   have HPR:Hid ((comP ((l.take (j+1)).map (opdP b.locals))).length<=140737488355328):=aF (by
    obtain ⟨r,hr⟩:=yR (l.map (opdP b.locals)) (j+1);rw [<- List.map_take] at hr;have:=HZ.out;unfold opsP at this;rw [hr] at this
    simp only [Sm,bB] at this;omega)
   obtain ⟨x,hx⟩:∃x,l[j]=x:=⟨_,rfl⟩;rw [hx] at HX HT x0 x1 x2 h3 h5 x6;obtain ⟨F,hF⟩:∃F,opdP b.locals x=F:=⟨_,rfl⟩
   have hpart:F.length<=140737488355328:=by
    have h:=kL (l:=(l.take (j+1)).map (opdP b.locals)) F (by rw [HT.out,hF];simp);have:=HPR.out;omega
   have hj1:(j:Int)+1<=9223372036854775807:=by omega
   rw [hF] at HT HX;have HX2:=aF (HX.out (by show F.length<=_;exact hpart));have HSP:Hid (Slc 2 RPj wr A0 c0 x.place.proj):=aF ⟨h5,h3,h4⟩;obtain ⟨kk,⟨l0,ps⟩,nn⟩:=x;simp only at x0 x1 x2 x6 HX2 HSP h3;clear HX hx hF h4 h5;rcases Nat.eq_zero_or_pos j with h0 | h0
   ·have hLe:L=[]:=by rw [HL.out,h0];rfl
    subst hLe;have HNX:Hid (F=comP ((l.take (j+1)).map (opdP b.locals))):=aF (by rw [HT.out,h0];exact (nY F).symm);have hz1:¬(9223372036854775807<F.length):=(by omega);have hnp:¬(0<j):=(by omega);clear h0;go_wp2_with fail
    refine cR (S:=fun X=>X.heap[w.heap.size]?=some (.cells ((bdM b A1 c1 A2 c2 A3 c3 A4 c4 A5 c5 [])).toArray 28 (0,0))/\(X.cell? ⟨bb,oo+j * 4,none⟩=some (.int .i64 kk)/\X.cell? ⟨bb,oo+j * 4+1,none⟩=some (.int .i64 l0)/\X.cell? ⟨bb,oo+j * 4+1+1,none⟩=some (.slice A0 ps.length c0)/\X.cell? ⟨bb,oo+j * 4+3,none⟩=some (.int .i64 nn))) [0,1,2,3,4,5,6,7,8] (by kernel_rfl) ?_;have hS:(wr.drew).heap[w.heap.size]?=some (.cells ((bdM b A1 c1 A2 c2 A3 c3 A4 c4 A5 c5 [])).toArray 28 (0,0))/\((wr.drew).cell? ⟨bb,oo+j * 4,none⟩=some (.int .i64 kk)/\(wr.drew).cell? ⟨bb,oo+j * 4+1,none⟩=some (.int .i64 l0)/\(wr.drew).cell? ⟨bb,oo+j * 4+1+1,none⟩=some (.slice A0 ps.length c0)/\(wr.drew).cell? ⟨bb,oo+j * 4+3,none⟩=some (.int .i64 nn)):=⟨HBX.out,x0,x1,x2,x6⟩;(iterate 6 (refine cS (v:=?_) ?_ hS ?_;rotate_left;(next=>(rintro X ⟨hX,s0,s1,s2,s3⟩;have hY:=cQ hX;obtain ⟨t0,t1,t2,t3,t4,t5,t6⟩:=aS hY;(try simp only [aI]);go_simp;rfl));simp only [aM]));(refine cV (fun K1 hK1=>?_);simp only [aM];rw [bA (by rfl)];go_simp);refine (HX2.out _ HB.out.drew _ _ (HSP.out.keep RPj.keeps (aX _ _).drew)).mono ?_;rintro e' w3 ⟨rfl,hw3⟩;replace hS:=bJ (cP hS.1 hw3) (bJ (cN hw3 hS.2.1) (bJ (cN hw3 hS.2.2.1) (bJ (cN hw3 hS.2.2.2.1) (cN hw3 hS.2.2.2.2))));have HB3:=aF (HB.out.drew.trans (hw3.mono HB.out.drew.size));clear hw3;refine hK1.out _ _ (fun _=>hS) ?_;refine cU (v:=tx (F)) (by kernel_rfl) (fun _ _ _ h=>h) (Or.inl ⟨by rfl,?_⟩) hS ?_
    ·rintro X hX;(try simp only [aI]);go_simp;exact (ba_app' _ _).trans (by simp [bl])
    (simp only [aM]);((refine cS (v:=?_) ?_ hS ?_;rotate_left;(next=>(rintro X -;(try simp only [aI]);go_simp;rfl));simp only [aM]))
    refine dA ?_;have HBX3:=aF hS.1;clear hS;clear x0 x1 x2 x6 hbb hz1;go_wp2_with fail
    go_roundw
    case rel=>exact ⟨j+1,F,by go_num,by omega,rfl,HNX,HB3,HBX3⟩
    case measure=>simp [intOf];omega
   ·have hne:(l.take j).map (opdP b.locals)≠[]:=by
     intro e;have e2:=congrArg List.length e;rw [cG,cL,bP] at e2;omega
    have HNX:Hid (L ++ (44 :: 32 :: F)=comP ((l.take (j+1)).map (opdP b.locals))):=aF (by rw [HT.out,tB _ _ hne,<- HL.out])
    have hlen:L.length+F.length+2<=140737488355328:=by
     have:=HPR.out;rw [<- HNX.out] at this;simp only [bB,bK] at this;omega
    have hz1:¬(9223372036854775807<L.length+2):=(by omega);have hz2:¬(9223372036854775807<L.length+2+F.length):=(by omega);have hz3:¬(9223372036854775807<L.length+1+1+F.length):=(by omega);have hpos:(0:Int)<(j:Int):=(by omega);have ea:=ba_l L #[44,32];clear hne hlen;go_wp2_with fail
    refine cR (S:=fun X=>X.heap[w.heap.size]?=some (.cells ((bdM b A1 c1 A2 c2 A3 c3 A4 c4 A5 c5 [])).toArray 28 (0,0))/\(X.cell? ⟨bb,oo+j * 4,none⟩=some (.int .i64 kk)/\X.cell? ⟨bb,oo+j * 4+1,none⟩=some (.int .i64 l0)/\X.cell? ⟨bb,oo+j * 4+1+1,none⟩=some (.slice A0 ps.length c0)/\X.cell? ⟨bb,oo+j * 4+3,none⟩=some (.int .i64 nn))) [0,1,2,3,4,5,6,7,8] (by kernel_rfl) ?_;have hS:(wr.drew).heap[w.heap.size]?=some (.cells ((bdM b A1 c1 A2 c2 A3 c3 A4 c4 A5 c5 [])).toArray 28 (0,0))/\((wr.drew).cell? ⟨bb,oo+j * 4,none⟩=some (.int .i64 kk)/\(wr.drew).cell? ⟨bb,oo+j * 4+1,none⟩=some (.int .i64 l0)/\(wr.drew).cell? ⟨bb,oo+j * 4+1+1,none⟩=some (.slice A0 ps.length c0)/\(wr.drew).cell? ⟨bb,oo+j * 4+3,none⟩=some (.int .i64 nn)):=⟨HBX.out,x0,x1,x2,x6⟩;(iterate 6 (refine cS (v:=?_) ?_ hS ?_;rotate_left;(next=>(rintro X ⟨hX,s0,s1,s2,s3⟩;have hY:=cQ hX;obtain ⟨t0,t1,t2,t3,t4,t5,t6⟩:=aS hY;(try simp only [aI]);go_simp;rfl));simp only [aM]));(refine cV (fun K1 hK1=>?_);simp only [aM];rw [bA (by rfl)];go_simp);refine (HX2.out _ HB.out.drew _ _ (HSP.out.keep RPj.keeps (aX _ _).drew)).mono ?_;rintro e' w3 ⟨rfl,hw3⟩;replace hS:=bJ (cP hS.1 hw3) (bJ (cN hw3 hS.2.1) (bJ (cN hw3 hS.2.2.1) (bJ (cN hw3 hS.2.2.2.1) (cN hw3 hS.2.2.2.2))));have HB3:=aF (HB.out.drew.trans (hw3.mono HB.out.drew.size));clear hw3;refine hK1.out _ _ (fun _=>hS) ?_;refine cU (v:=tx (L ++ (44 :: 32 :: F))) (by kernel_rfl) (fun _ _ _ h=>h) (Or.inl ⟨by rfl,?_⟩) hS ?_
    ·rintro X hX;(try simp only [aI]);go_simp;exact (ba_app' _ _).trans (by simp [bl])
    (simp only [aM]);((refine cS (v:=?_) ?_ hS ?_;rotate_left;(next=>(rintro X -;(try simp only [aI]);go_simp;rfl));simp only [aM]))
    refine dA ?_;have HBX3:=aF hS.1;clear hS;clear x0 x1 x2 x6 hbb hz1 hz2 hz3;go_wp2_with fail
    go_roundw
    case rel=>exact ⟨j+1,L ++ (44 :: 32 :: F),by go_num,by omega,rfl,HNX,HB3,HBX3⟩
    case measure=>simp [intOf];omega
theorem xDU (b:Bdy) (bh:BH) (w:World) (H:BdAt w b bh) (t:Ty) (A:Option Addr) (c:Nat) (hp:Slc 1 RInt w A c t.flds) (ho:OkTy b.regions t) (hf:FitT t) (hz:Sm (typeP b.regions t)):
 Calls Tryz.prog 40 #[.agg (bdC b bh).toArray,.agg #[.int .i64 t.kind,.bool t.mu,.int .i64 t.reg,.int .i64 t.elem,.slice A t.flds.length c]] w fun e' w'=>e' = .returned (tx (typeP b.regions t))/\Below w.heap.size w w':=by
 have HB0:=aF (fun (o o2:Obj)=>((aX w.heap.size w).alloc (aY _) o).alloc (by simp) o2);have HR0:=aF (fun (h3:t.kind=3) (W:World) (hb:Below w.heap.size w W) (s:List UInt8) (hz:Sm (refP b.regions t.reg t.mu s))=>xCG b bh W (H.keep hb) t.reg t.mu s (ho.reg h3) hz);have HNE:=aF (fun (W:World)=>fX t.elem hf.elem.1 hf.elem.2 W);have HNF:=aF (fun (x:Int) (hx:x∈t.flds) (W:World)=>fX x (hf.flds x hx).1 (hf.flds x hx).2 W);have HEL:=aF (Lib.itoa_length_le t.elem hf.elem.1 hf.elem.2);have HFL:=aF (fun (x:Int) (hx:x∈t.flds)=>Lib.itoa_length_le x (hf.flds x hx).1 (hf.flds x hx).2);obtain ⟨A1,c1,A2,c2,A3,c3,A4,c4,A5,c5⟩:=bh;have HR:Hid ((h3:t.kind=3)->∀(W:World) (hb:Below w.heap.size w W) (s:List UInt8) (hz:Sm (refP b.regions t.reg t.mu s)),Calls Tryz.prog 83 #[.agg #[Value.string b.name,.slice A1 b.regions.length c1,.slice A2 b.outl.length c2,.slice A3 b.types.length c3,.slice A4 b.locals.length c4,.int .i64 b.args,.slice A5 b.blocks.length c5],.int .i64 t.reg,.bool t.mu,tx s] W fun e' w'=>e' = .returned (tx (refP b.regions t.reg t.mu s))/\Below W.heap.size W w'):=HR0;have HS:=aF hp;have hle:=hp.le;have hbig:=hp.big;have HZ:=aF hz;obtain ⟨k,mu,rg,el,fl⟩:=t;have hk:=ho.kind;simp only at hk HNE HNF HEL HFL HR HS hle ⊢;clear H hp ho hf hz HR0;unfold bdC;obtain rfl | rfl | rfl | rfl | rfl:k=0\/k=1\/k=2\/k=3\/k=4:=by omega
 case inr.inr.inr.inl=>
  obtain ⟨ix,hix⟩:∃ix,Lib.itoa el=ix:=⟨_,rfl⟩;have HE:Hid (typeP b.regions ⟨3,mu,rg,el,fl⟩=refP b.regions rg mu (35 :: ix)):=aF (by rw [<- hix];rfl);have HQ:=aF (fun W hb=>HR.out rfl W hb (35 :: ix) (by rw [<- HE.out];exact HZ.out));have hz1:¬(9223372036854775807<1+ix.length):=by have:=HEL.out;rw [hix] at this;omega
  rw [hix] at HNE;clear HR hix HEL HFL HNF HS;go_enter Tryz.func40,Tryz.ntmps40
  go_wp2_with fail
  have hS:((w.alloc (.cells #[Value.string b.name,.slice A1 b.regions.length c1,.slice A2 b.outl.length c2,.slice A3 b.types.length c3,.slice A4 b.locals.length c4,.int .i64 b.args,.slice A5 b.blocks.length c5] 28)).alloc (.cells #[.int .i64 3,.bool mu,.int .i64 rg,.int .i64 el,.slice A fl.length c] 81)).drew.heap[w.heap.size]?=some (.cells ((bdM b A1 c1 A2 c2 A3 c3 A4 c4 A5 c5 [])).toArray 28 (0,0))/\((w.alloc (.cells #[Value.string b.name,.slice A1 b.regions.length c1,.slice A2 b.outl.length c2,.slice A3 b.types.length c3,.slice A4 b.locals.length c4,.int .i64 b.args,.slice A5 b.blocks.length c5] 28)).alloc (.cells #[.int .i64 3,.bool mu,.int .i64 rg,.int .i64 el,.slice A fl.length c] 81)).drew.heap[w.heap.size+1]?=some (.cells [Value.int .i64 3,.bool mu,.int .i64 rg,.int .i64 el,.slice A fl.length c].toArray 81 (0,0)):=by
   refine ⟨cP (heap_alloc_new w _) ((aX _ _).alloc (aY _) _).drew,?_⟩;have h:=heap_alloc_new (w.alloc (.cells #[Value.string b.name,.slice A1 b.regions.length c1,.slice A2 b.outl.length c2,.slice A3 b.types.length c3,.slice A4 b.locals.length c4,.int .i64 b.args,.slice A5 b.blocks.length c5] 28)) (.cells #[.int .i64 3,.bool mu,.int .i64 rg,.int .i64 el,.slice A fl.length c] 81);rw [bI] at h;exact h
  refine cR (S:=fun X=>X.heap[w.heap.size]?=some (.cells ((bdM b A1 c1 A2 c2 A3 c3 A4 c4 A5 c5 [])).toArray 28 (0,0))/\X.heap[w.heap.size+1]?=some (.cells [Value.int .i64 3,.bool mu,.int .i64 rg,.int .i64 el,.slice A fl.length c].toArray 81 (0,0))) [0,1,2,3,4,5,6,7,8,9,10] (by kernel_rfl) ?_;(iterate 7 (refine cS (v:=?_) ?_ hS ?_;rotate_left;(next=>(rintro X ⟨hX,hE⟩;have hY:=cQ hX;obtain ⟨t0,t1,t2,t3,t4,t5,t6⟩:=aS hY;have e1:=cQ hE 1 _ rfl;have e2:=cQ hE 2 _ rfl;have e3:=cQ hE 3 _ rfl;(try simp only [aI]);go_simp;rfl));simp only [aM]));(refine cV (fun K1 hK1=>?_);simp only [aM];rw [bA (by rfl)];go_simp);refine (HNE.out _).mono ?_;rintro e' w3 ⟨rfl,hw3⟩;replace hS:=bJ (cP hS.1 hw3) (cP hS.2 hw3);have HB3:=aF ((HB0.out _ _).drew.trans (hw3.mono (HB0.out _ _).drew.size));clear hw3;refine hK1.out _ _ (fun _=>hS) ?_;refine cU (v:=tx (35 :: ix)) (by kernel_rfl) (fun _ _ _ h=>h) (Or.inl ⟨by rfl,?_⟩) hS ?_
  ·rintro X hX;(try simp only [aI]);go_simp;exact (ba_app' _ _).trans (by simp [bl])
  (simp only [aM]);(refine cV (fun K1 hK1=>?_);simp only [aM];rw [bA (by rfl)];go_simp);refine (HQ.out _ HB3.out).mono ?_;rintro e' w4 ⟨rfl,hw4⟩;replace hS:=bJ (cP hS.1 hw4) (cP hS.2 hw4);have HB4:=aF (HB3.out.trans (hw4.mono HB3.out.size));clear hw4;refine hK1.out _ _ (fun _=>hS) ?_;((refine cS (v:=?_) ?_ hS ?_;rotate_left;(next=>(rintro X -;(try simp only [aI]);go_simp;rfl));simp only [aM]))
  refine dA ?_;clear hS;go_wp2_with fail
  go_ret;exact ⟨by rw [HE.out];rfl,HB4.out⟩
 case inr.inr.inr.inr=>
  clear HR HNE HEL;have HE:Hid (typeP b.regions ⟨4,mu,rg,el,fl⟩=40 :: (comP (fl.map (idxP 35)) ++ [41])):=aF rfl;go_enter Tryz.func40,Tryz.ntmps40
  go_wp2_with fail
  go_loopw [5,6] (fun s i wr=>∃(j:Nat) (L:List UInt8),i = .int .i64 j/\j<=fl.length/\s=tx (40 :: L)/\Hid (L=comP ((fl.take j).map (idxP 35)))/\Hid (Below w.heap.size w wr)/\Hid (wr.cell? ⟨w.heap.size+1,4,none⟩=some (.slice A fl.length c))) (fun _ i _=>fl.length - (intOf i).toNat)
  case atStart=>exact ⟨0,[],rfl,Nat.zero_le _,rfl,aF rfl,HB0.out _ _ |> aF,aF (by
   have h:=cX (w.alloc (.cells #[Value.string b.name,.slice A1 b.regions.length c1,.slice A2 b.outl.length c2,.slice A3 b.types.length c3,.slice A4 b.locals.length c4,.int .i64 b.args,.slice A5 b.blocks.length c5] 28)) [.int .i64 4,.bool mu,.int .i64 rg,.int .i64 el,.slice A fl.length c] 81 4 _ rfl;rw [bI] at h
   exact h)⟩
  case round=>
   obtain ⟨j,L,rfl,hj,rfl,HL,HB,HY⟩:=hrel;have hy:=HY.out;by_cases hlt:j<fl.length
   case neg=>
    have HEL:Hid (L=comP (fl.map (idxP 35))):=aF (by rw [HL.out,List.take_of_length_le (by omega)]);have hzl:=HZ.out;rw [HE.out,<- HEL.out] at hzl;simp only [Sm,bB,bK,bP] at hzl;have hz1:¬(9223372036854775807<L.length+1+1):=(by omega);clear HL hzl;go_wp2_with fail
    go_ret;exact ⟨by rw [HE.out,<- HEL.out];refine congrArg (fun l=>Ending.returned (Value.string l)) (ByteArray.ext ?_);simp,HB.out⟩
   case pos=>
    obtain ⟨bb,oo,rfl,hbb,y⟩:=(HS.out.keep RInt.keeps HB.out).sl.at_ hlt;have x0:wr.cell? ⟨bb,oo+j,none⟩=some (.int .i64 fl[j]):=(by simpa [RInt] using y);have HX:=aF (HNF.out fl[j] (bN hlt));have HXL:=HFL.out fl[j] (bN hlt);have HT:Hid ((fl.take (j+1)).map (idxP 35)=(fl.take j).map (idxP 35) ++ [35 :: Lib.itoa fl[j]]):=aF (by rw [bF hlt,bU];rfl)
    have HPR:Hid ((comP ((fl.take (j+1)).map (idxP 35))).length<=140737488355328):=aF (by
     obtain ⟨r,hr⟩:=yR (fl.map (idxP 35)) (j+1);rw [<- List.map_take] at hr;have:=HZ.out;rw [HE.out,hr] at this
     simp only [Sm,bB,bK] at this;omega)
    obtain ⟨x,hx⟩:∃x,fl[j]=x:=⟨_,rfl⟩;rw [hx] at HX HT x0 HXL;obtain ⟨F,hF⟩:∃F,Lib.itoa x=F:=⟨_,rfl⟩;rw [hF] at HT HX HXL;have hj1:(j:Int)+1<=9223372036854775807:=(by omega);have hz0:¬(9223372036854775807<1+F.length):=(by omega);clear hx hF y;rcases Nat.eq_zero_or_pos j with h0 | h0
    ·have hLe:L=[]:=by rw [HL.out,h0];rfl
     subst hLe;have HNX:Hid (35 :: F=comP ((fl.take (j+1)).map (idxP 35))):=aF (by rw [HT.out,h0];exact (nY (35 :: F)).symm);have hnp:¬(0<j):=(by omega);have hz1:¬(9223372036854775807<1+(F.length+1)):=(by omega);have ea:(⟨#[35]⟩:ByteArray) ++ ⟨F.toArray⟩=⟨(35 :: F).toArray⟩:=(ba_app' _ _).trans (by simp [bl]);have eb:(⟨[40].toArray⟩:ByteArray) ++ ⟨(35 :: F).toArray⟩=⟨(40 :: 35 :: F).toArray⟩:=(ba_app' _ _).trans (by simp [bl]);clear h0;go_wp2_with (go_at_call 39;refine (HX.out _).mono ?_;rintro e' w3 ⟨rfl,hw3⟩;have HB3:=aF (HB.out.trans (hw3.mono HB.out.size));have HY3:=aF (cN hw3 hy);clear hw3)
     go_roundw
     case rel=>exact ⟨j+1,35 :: F,by go_num,by omega,by first | rfl | (refine congrArg Value.string (ByteArray.ext ?_);simp),HNX,HB3,HY3⟩
     case measure=>simp [intOf];omega
    ·have hne:(fl.take j).map (idxP 35)≠[]:=by
      intro e;have e2:=congrArg List.length e;rw [cG,cL,bP] at e2;omega
     have HNX:Hid (L ++ (44 :: 32 :: 35 :: F)=comP ((fl.take (j+1)).map (idxP 35))):=aF (by rw [HT.out,tB _ _ hne,<- HL.out])
     have hlen:L.length+F.length+3<=140737488355328:=by
      have:=HPR.out;rw [<- HNX.out] at this;simp only [bB,bK] at this;omega
     have hz1:¬(9223372036854775807<L.length+1+2):=(by omega);have hz2:¬(9223372036854775807<L.length+1+2+(F.length+1)):=(by omega);have hz3:¬(9223372036854775807<L.length+2+1+(F.length+1)):=(by omega);have hz4:¬(9223372036854775807<L.length+1+1+1+(F.length+1)):=(by omega);have hpos:(0:Int)<(j:Int):=(by omega);have ea:(⟨#[35]⟩:ByteArray) ++ ⟨F.toArray⟩=⟨(35 :: F).toArray⟩:=(ba_app' _ _).trans (by simp [bl]);have eb:(⟨(40 :: L).toArray⟩:ByteArray) ++ ⟨#[44,32]⟩=⟨(40 :: (L ++ [44,32])).toArray⟩:=(ba_app' _ _).trans (by simp [bl]);have ec:(⟨(40 :: (L ++ [44,32])).toArray⟩:ByteArray) ++ ⟨(35 :: F).toArray⟩=⟨(40 :: (L ++ (44 :: 32 :: 35 :: F))).toArray⟩:=(ba_app' _ _).trans (by simp [bl]);clear hne hlen;go_wp2_with (go_at_call 39;refine (HX.out _).mono ?_;rintro e' w3 ⟨rfl,hw3⟩;have HB3:=aF (HB.out.trans (hw3.mono HB.out.size));have HY3:=aF (cN hw3 hy);clear hw3)
     go_roundw
     case rel=>exact ⟨j+1,L ++ (44 :: 32 :: 35 :: F),by go_num,by omega,by first | rfl | (refine congrArg Value.string (ByteArray.ext ?_);simp),HNX,HB3,HY3⟩
     case measure=>simp [intOf];omega
 all_goals
  clear HR HNE HNF HEL HFL HS;go_enter Tryz.func40,Tryz.ntmps40
  go_wp2_with fail
  go_ret;exact ⟨rfl,HB0.out _ _⟩
theorem yB (w:World) (l1 l2 l3 l4:List Value) (T1 T2 T3 T4:TypeId) (W:World) (h:((((w.alloc (.cells l1.toArray T1)).alloc (.cells l2.toArray T2)).alloc (.cells l3.toArray T3)).alloc (.cells l4.toArray T4))=W):
 W.heap[w.heap.size]?=some (.cells l1.toArray T1 (0,0))/\W.heap[w.heap.size+1]?=some (.cells l2.toArray T2 (0,0))/\W.heap[w.heap.size+2]?=some (.cells l3.toArray T3 (0,0))/\W.heap[w.heap.size+3]?=some (.cells l4.toArray T4 (0,0)):=by
 subst h;have a1:=heap_alloc_new w (.cells l1.toArray T1);have s1:(w.alloc (.cells l1.toArray T1)).heap.size=w.heap.size+1:=bI _ _;generalize (w.alloc (.cells l1.toArray T1))=w1 at *;have a2:=heap_alloc_new w1 (.cells l2.toArray T2);have s2:(w1.alloc (.cells l2.toArray T2)).heap.size=w1.heap.size+1:=bI _ _;have a1:=cP a1 ((aX _ w1).alloc (aY _) (.cells l2.toArray T2));generalize (w1.alloc (.cells l2.toArray T2))=w2 at *;have a3:=heap_alloc_new w2 (.cells l3.toArray T3);have s3:(w2.alloc (.cells l3.toArray T3)).heap.size=w2.heap.size+1:=bI _ _;have a1:=cP a1 ((aX _ w2).alloc (aY _) (.cells l3.toArray T3));have a2:=cP a2 ((aX _ w2).alloc (aY _) (.cells l3.toArray T3));generalize (w2.alloc (.cells l3.toArray T3))=w3 at *;have a4:=heap_alloc_new w3 (.cells l4.toArray T4);have a1:=cP a1 ((aX _ w3).alloc (aY _) (.cells l4.toArray T4));have a2:=cP a2 ((aX _ w3).alloc (aY _) (.cells l4.toArray T4));have a3:=cP a3 ((aX _ w3).alloc (aY _) (.cells l4.toArray T4));rw [s1] at a2;rw [s2,s1] at a3;rw [s3,s2,s1] at a4;exact ⟨a1,a2,a3,a4⟩
theorem rp_rv (b:Bdy) (bh:BH) (w:World) (H:BdAt w b bh) (r:Rvl) (A B:Option Addr) (c d:Nat) (hp:Slc 2 RPj w A c r.place.proj) (ha:Slc 4 ROp w B d r.args) (ho:OkRv b.locals b.regions r) (hf:FitR r) (hz:Sm (rvP b.locals b.regions r)):
 Calls Tryz.prog 84 #[.agg (bdC b bh).toArray,.agg #[.int .i64 r.kind,.int .i64 r.op,.int .i64 r.reg,.bool r.mu,.int .i64 r.place.loc,.slice A r.place.proj.length c,.slice B r.args.length d]] w fun e' w'=>e' = .returned (tx (rvP b.locals b.regions r))/\Below w.heap.size w w':=by
 have HB0:=aF (fun (o o2 o3 o4:Obj)=>((((aX w.heap.size w).alloc (aY _) o).alloc (by simp) o2).alloc (by simp;omega) o3).alloc (by simp;omega) o4);have HO0:=aF (fun (hz:Sm (opsP b.locals r.args)) (W:World) (hb:Below w.heap.size w W)=>xCH b bh W (H.keep hb) r.args B d (ha.keep ROp.keeps hb) ho.args hf.args hz);have HP0:=aF (fun (h1:r.kind=1) (hz:Sm (placeP b.locals r.place)) (W:World) (hb:Below w.heap.size w W)=>iO b bh r.place A c W (H.keep hb) (hp.keep RPj.keeps hb) (ho.isb h1).2.2.2.loc hf.pj hz);have HR0:=aF (fun (h1:r.kind=1) (s:List UInt8) (hz:Sm (refP b.regions r.reg r.mu s)) (W:World) (hb:Below w.heap.size w W)=>xCG b bh W (H.keep hb) r.reg r.mu s (ho.isb h1).2.2.1 hz);obtain ⟨A1,c1,A2,c2,A3,c3,A4,c4,A5,c5⟩:=bh;have HO:Hid ((hz:Sm (opsP b.locals r.args))->∀W,Below w.heap.size w W->Calls Tryz.prog 85 #[.agg #[Value.string b.name,.slice A1 b.regions.length c1,.slice A2 b.outl.length c2,.slice A3 b.types.length c3,.slice A4 b.locals.length c4,.int .i64 b.args,.slice A5 b.blocks.length c5],.slice B r.args.length d] W fun e' w'=>e' = .returned (tx (opsP b.locals r.args))/\Below W.heap.size W w'):=HO0;have HP:Hid ((h1:r.kind=1)->(hz:Sm (placeP b.locals r.place))->∀W,Below w.heap.size w W->Calls Tryz.prog 50 #[.agg #[Value.string b.name,.slice A1 b.regions.length c1,.slice A2 b.outl.length c2,.slice A3 b.types.length c3,.slice A4 b.locals.length c4,.int .i64 b.args,.slice A5 b.blocks.length c5],.agg #[.int .i64 r.place.loc,.slice A r.place.proj.length c]] W fun e' w'=>e' = .returned (tx (placeP b.locals r.place))/\Below W.heap.size W w'):=HP0;have HR:Hid ((h1:r.kind=1)->(s:List UInt8)->(hz:Sm (refP b.regions r.reg r.mu s))->∀W,Below w.heap.size w W->Calls Tryz.prog 83 #[.agg #[Value.string b.name,.slice A1 b.regions.length c1,.slice A2 b.outl.length c2,.slice A3 b.types.length c3,.slice A4 b.locals.length c4,.int .i64 b.args,.slice A5 b.blocks.length c5],.int .i64 r.reg,.bool r.mu,tx s] W fun e' w'=>e' = .returned (tx (refP b.regions r.reg r.mu s))/\Below W.heap.size W w'):=HR0;have HF:=aF (fun (l2:List Value) (T2:TypeId)=>yB w [Value.string b.name,.slice A1 b.regions.length c1,.slice A2 b.outl.length c2,.slice A3 b.types.length c3,.slice A4 b.locals.length c4,.int .i64 b.args,.slice A5 b.blocks.length c5] l2 [tx [110,101,103,32],tx [110,111,116,32]] [tx [97,100,100,32],tx [115,117,98,32],tx [109,117,108,32],tx [101,113,32],tx [108,116,32],tx [97,110,100,32]] 28 T2 189 190);obtain ⟨t,ht⟩:∃t,opsP b.locals r.args=t:=⟨_,rfl⟩;have huna:=ho.una;have hbin:=ho.bin;have hk:=ho.kind;obtain ⟨k,op,rg,mu,⟨l0,ps⟩,ar⟩:=r;simp only at hk HO HP HR huna hbin ht ⊢;rw [ht] at HO;clear H hp ha ho hf HO0 HP0 HR0;unfold bdC;by_cases h1:k=1
 ·subst h1;obtain ⟨q,hq⟩:∃q,placeP b.locals ⟨l0,ps⟩=q:=⟨_,rfl⟩;have HE:Hid (rvP b.locals b.regions ⟨1,op,rg,mu,⟨l0,ps⟩,ar⟩=refP b.regions rg mu q):=aF (by unfold rvP;rw [bA rfl,hq])
  have hzq:Sm q:=by
   rw [HE.out] at hz;unfold refP at hz;simp only [Sm,bB,bK,bP] at hz ⊢;omega
  have HQ:=aF (HP.out rfl (by rw [hq];exact hzq));rw [hq] at HQ;have HQ2:=aF (HR.out rfl q (by rw [<- HE.out];exact hz));clear hq hz hzq HO HP HR huna hbin ht hk;obtain ⟨W,hW⟩:∃W,((((w.alloc (.cells ([Value.string b.name,.slice A1 b.regions.length c1,.slice A2 b.outl.length c2,.slice A3 b.types.length c3,.slice A4 b.locals.length c4,.int .i64 b.args,.slice A5 b.blocks.length c5]).toArray 28)).alloc (.cells ([Value.int .i64 1,.int .i64 op,.int .i64 rg,.bool mu,.int .i64 l0,.slice A ps.length c,.slice B ar.length d]).toArray 85)).alloc (.cells ([tx [110,101,103,32],tx [110,111,116,32]]).toArray 189)).alloc (.cells ([tx [97,100,100,32],tx [115,117,98,32],tx [109,117,108,32],tx [101,113,32],tx [108,116,32],tx [97,110,100,32]]).toArray 190))=W:=⟨_,rfl⟩;have HFW:=aF (HF.out [Value.int .i64 1,.int .i64 op,.int .i64 rg,.bool mu,.int .i64 l0,.slice A ps.length c,.slice B ar.length d] 85 W hW);have HBW:Hid (Below w.heap.size w W):=aF (hW ▸ HB0.out _ _ _ _);have hY:=cQ HFW.out.1;obtain ⟨t0,t1,t2,t3,t4,t5,t6⟩:=aS hY;have hZ:=cQ HFW.out.2.1;obtain ⟨e0,-,-,-,-,-,e6⟩:=aS hZ;clear HF HB0 hY hZ;go_enter Tryz.func84,Tryz.ntmps84
  go_wp2_with fail
  clear t0 t1 t2 t3 t4 t5 t6 e0 e6;have hS:W.drew.heap[w.heap.size]?=some (.cells ((bdM b A1 c1 A2 c2 A3 c3 A4 c4 A5 c5 [])).toArray 28 (0,0))/\W.drew.heap[w.heap.size+1]?=some (.cells ([Value.int .i64 1,.int .i64 op,.int .i64 rg,.bool mu,.int .i64 l0,.slice A ps.length c,.slice B ar.length d]).toArray 85 (0,0)):=⟨HFW.out.1,HFW.out.2.1⟩;refine cR (S:=fun X=>X.heap[w.heap.size]?=some (.cells ((bdM b A1 c1 A2 c2 A3 c3 A4 c4 A5 c5 [])).toArray 28 (0,0))/\X.heap[w.heap.size+1]?=some (.cells ([Value.int .i64 1,.int .i64 op,.int .i64 rg,.bool mu,.int .i64 l0,.slice A ps.length c,.slice B ar.length d]).toArray 85 (0,0))) [0,1,2,3,4,5,6,7,8,9,10] (by kernel_rfl) ?_;(iterate 8 (refine cS (v:=?_) ?_ hS ?_;rotate_left;(next=>(rintro X ⟨hX,hE⟩;have hY:=cQ hX;obtain ⟨t0,t1,t2,t3,t4,t5,t6⟩:=aS hY;have hZ:=cQ hE;obtain ⟨-,-,e2,e3,e4,e5⟩:=aR hZ;(try simp only [aI]);go_simp;rfl));simp only [aM]));(refine cV (fun K1 hK1=>?_);simp only [aM];rw [bA (by rfl)];go_simp);refine (HQ.out _ HBW.out.drew).mono ?_;rintro e' w3 ⟨rfl,hw3⟩;replace hS:=bJ (cP hS.1 hw3) (cP hS.2 hw3);have HB3:=aF (HBW.out.drew.trans (hw3.mono HBW.out.drew.size));clear hw3;refine hK1.out _ _ (fun _=>hS) ?_;(refine cV (fun K1 hK1=>?_);simp only [aM];rw [bA (by rfl)];go_simp);refine (HQ2.out _ HB3.out).mono ?_;rintro e' w4 ⟨rfl,hw4⟩;replace hS:=bJ (cP hS.1 hw4) (cP hS.2 hw4);have HB4:=aF (HB3.out.trans (hw4.mono HB3.out.size));clear hw4;refine hK1.out _ _ (fun _=>hS) ?_;((refine cS (v:=?_) ?_ hS ?_;rotate_left;(next=>(rintro X -;(try simp only [aI]);go_simp;rfl));simp only [aM]))
  refine dA ?_;clear hS;go_wp2_with fail
  go_ret;exact ⟨by rw [HE.out];rfl,HB4.out⟩
 have HE:Hid (rvP b.locals b.regions ⟨k,op,rg,mu,⟨l0,ps⟩,ar⟩=if k=2 then unaP op ++ [32] ++ t else if k=3 then binP op ++ [32] ++ t else if k=4 then 40 :: (t ++ [41]) else t):=aF (by
  unfold rvP;rw [aZ h1,ht])
 have hzt:t.length+(if k=2\/k=3 then 3 else if k=4 then 2 else 0)<=140737488355328:=by
  rw [HE.out] at hz;obtain rfl | rfl | rfl | rfl:k=0\/k=2\/k=3\/k=4:=by omega
  ·simpa [Sm] using hz
  ·have:2<=(unaP op).length:=by unfold unaP;split <;> decide
   simp [Sm] at hz ⊢;omega
  ·have:2<=(binP op).length:=by unfold binP;repeat (first | decide | split)
   simp [Sm] at hz ⊢;omega
  ·simp [Sm] at hz ⊢;omega
 have HQ:=aF (HO.out (by show t.length<=_;omega));clear HO HP HR hz ht;obtain rfl | rfl | rfl | rfl:k=0\/k=2\/k=3\/k=4:=by omega
 ·simp at hzt;clear huna hbin hk;obtain ⟨W,hW⟩:∃W,((((w.alloc (.cells ([Value.string b.name,.slice A1 b.regions.length c1,.slice A2 b.outl.length c2,.slice A3 b.types.length c3,.slice A4 b.locals.length c4,.int .i64 b.args,.slice A5 b.blocks.length c5]).toArray 28)).alloc (.cells ([Value.int .i64 0,.int .i64 op,.int .i64 rg,.bool mu,.int .i64 l0,.slice A ps.length c,.slice B ar.length d]).toArray 85)).alloc (.cells ([tx [110,101,103,32],tx [110,111,116,32]]).toArray 189)).alloc (.cells ([tx [97,100,100,32],tx [115,117,98,32],tx [109,117,108,32],tx [101,113,32],tx [108,116,32],tx [97,110,100,32]]).toArray 190))=W:=⟨_,rfl⟩;have HFW:=aF (HF.out [Value.int .i64 0,.int .i64 op,.int .i64 rg,.bool mu,.int .i64 l0,.slice A ps.length c,.slice B ar.length d] 85 W hW);have HBW:Hid (Below w.heap.size w W):=aF (hW ▸ HB0.out _ _ _ _);have hY:=cQ HFW.out.1;obtain ⟨t0,t1,t2,t3,t4,t5,t6⟩:=aS hY;have hZ:=cQ HFW.out.2.1;obtain ⟨e0,-,-,-,-,-,e6⟩:=aS hZ;clear HF HB0 hY hZ;go_enter Tryz.func84,Tryz.ntmps84
  go_wp2_with (go_at_call 85;refine (HQ.out _ HBW.out).mono ?_;rintro e' w1 ⟨rfl,hb1⟩;have HB1:=aF (HBW.out.trans (hb1.mono HBW.out.size));clear hb1)
  go_ret;exact ⟨by rw [HE.out];rfl,HB1.out⟩
 ·have hu:=huna rfl;simp at hzt;obtain ⟨u,hu'⟩:∃u,unaP op=u:=⟨_,rfl⟩;have HE2:Hid (rvP b.locals b.regions ⟨2,op,rg,mu,⟨l0,ps⟩,ar⟩=u ++ [32] ++ t):=aF (by rw [HE.out,bA rfl,hu'])
  have hul:u.length<=3:=by
   rw [<- hu'];unfold unaP;repeat (first | decide | split)
  have HU:Hid (∀X:World,∀q:Nat,X.heap[q]?=some (.cells ([tx [110,101,103,32],tx [110,111,116,32]]).toArray 189 (0,0))->X.cell? ⟨q,op.toNat,none⟩=some (tx (u ++ [32]))):=aF (fun X q h=>by
   have h:=cQ h;obtain rfl | rfl:=(show op=0\/op=1 by omega);all_goals rw [<- hu']
   ·exact h 0 _ rfl
   ·exact h 1 _ rfl)
  obtain ⟨m,rfl⟩:=bG hu.1;have hm:m<2:=by have:=hu.2;omega
  rw [bW] at HU;have hmi:(m:Int)<2:=by omega
  obtain ⟨v,hv⟩:∃v,u ++ [32]=v:=⟨_,rfl⟩;have hvl:v.length=u.length+1:=by rw [<- hv];simp
  rw [hv] at HU HE2;have hz2:¬(9223372036854775807<v.length+t.length):=by omega
  clear hu hu' HE hzt hul huna hbin hk hvl hv hm;obtain ⟨W,hW⟩:∃W,((((w.alloc (.cells ([Value.string b.name,.slice A1 b.regions.length c1,.slice A2 b.outl.length c2,.slice A3 b.types.length c3,.slice A4 b.locals.length c4,.int .i64 b.args,.slice A5 b.blocks.length c5]).toArray 28)).alloc (.cells ([Value.int .i64 2,.int .i64 m,.int .i64 rg,.bool mu,.int .i64 l0,.slice A ps.length c,.slice B ar.length d]).toArray 85)).alloc (.cells ([tx [110,101,103,32],tx [110,111,116,32]]).toArray 189)).alloc (.cells ([tx [97,100,100,32],tx [115,117,98,32],tx [109,117,108,32],tx [101,113,32],tx [108,116,32],tx [97,110,100,32]]).toArray 190))=W:=⟨_,rfl⟩;have HFW:=aF (HF.out [Value.int .i64 2,.int .i64 m,.int .i64 rg,.bool mu,.int .i64 l0,.slice A ps.length c,.slice B ar.length d] 85 W hW);have HBW:Hid (Below w.heap.size w W):=aF (hW ▸ HB0.out _ _ _ _);have hY:=cQ HFW.out.1;obtain ⟨t0,t1,t2,t3,t4,t5,t6⟩:=aS hY;have hZ:=cQ HFW.out.2.1;obtain ⟨e0,-,-,-,-,-,e6⟩:=aS hZ;clear HF HB0 hY hZ;go_enter Tryz.func84,Tryz.ntmps84
  go_wp2_with fail
  clear t0 t1 t2 t3 t4 t5 t6 e0 e6;have hS:W.drew.heap[w.heap.size]?=some (.cells ((bdM b A1 c1 A2 c2 A3 c3 A4 c4 A5 c5 [])).toArray 28 (0,0))/\W.drew.heap[w.heap.size+1]?=some (.cells ([Value.int .i64 2,.int .i64 m,.int .i64 rg,.bool mu,.int .i64 l0,.slice A ps.length c,.slice B ar.length d]).toArray 85 (0,0))/\W.drew.heap[w.heap.size+2]?=some (.cells ([tx [110,101,103,32],tx [110,111,116,32]]).toArray 189 (0,0)):=⟨HFW.out.1,HFW.out.2.1,HFW.out.2.2.1⟩;refine cR (S:=fun X=>X.heap[w.heap.size]?=some (.cells ((bdM b A1 c1 A2 c2 A3 c3 A4 c4 A5 c5 [])).toArray 28 (0,0))/\X.heap[w.heap.size+1]?=some (.cells ([Value.int .i64 2,.int .i64 m,.int .i64 rg,.bool mu,.int .i64 l0,.slice A ps.length c,.slice B ar.length d]).toArray 85 (0,0))/\X.heap[w.heap.size+2]?=some (.cells ([tx [110,101,103,32],tx [110,111,116,32]]).toArray 189 (0,0))) [0,1,2,3,4,5,6,7,8,9] (by kernel_rfl) ?_;(iterate 7 (refine cS (v:=?_) ?_ hS ?_;rotate_left;(next=>(rintro X ⟨hX,hE,hU⟩;have hY:=cQ hX;obtain ⟨t0,t1,t2,t3,t4,t5,t6⟩:=aS hY;have hZ:=cQ hE;obtain ⟨-,e1,-,-,-,-,e6⟩:=aS hZ;have u0:=HU.out _ _ hU;(try simp only [aI]);go_simp;rfl));simp only [aM]));(refine cV (fun K1 hK1=>?_);simp only [aM];rw [bA (by rfl)];go_simp);refine (HQ.out _ HBW.out.drew).mono ?_;rintro e' w3 ⟨rfl,hw3⟩;replace hS:=bJ (cP hS.1 hw3) (bJ (cP hS.2.1 hw3) (cP hS.2.2 hw3));have HB3:=aF (HBW.out.drew.trans (hw3.mono HBW.out.drew.size));clear hw3;refine hK1.out _ _ (fun _=>hS) ?_;refine cU (v:=tx (v ++ t)) (by kernel_rfl) (fun _ _ _ h=>h) (Or.inl ⟨by rfl,?_⟩) hS ?_
  ·rintro X hX;(try simp only [aI]);go_simp;exact fT v t
  (simp only [aM]);((refine cS (v:=?_) ?_ hS ?_;rotate_left;(next=>(rintro X -;(try simp only [aI]);go_simp;rfl));simp only [aM]))
  refine dA ?_;clear hS;go_wp2_with fail
  go_ret;exact ⟨by rw [HE2.out];rfl,HB3.out⟩
 ·have hu:=hbin rfl;simp at hzt;obtain ⟨u,hu'⟩:∃u,binP op=u:=⟨_,rfl⟩;have HE2:Hid (rvP b.locals b.regions ⟨3,op,rg,mu,⟨l0,ps⟩,ar⟩=u ++ [32] ++ t):=aF (by rw [HE.out,aZ (by decide),bA rfl,hu'])
  have hul:u.length<=3:=by
   rw [<- hu'];unfold binP;repeat (first | decide | split)
  have HU:Hid (∀X:World,∀q:Nat,X.heap[q]?=some (.cells ([tx [97,100,100,32],tx [115,117,98,32],tx [109,117,108,32],tx [101,113,32],tx [108,116,32],tx [97,110,100,32]]).toArray 190 (0,0))->X.cell? ⟨q,op.toNat,none⟩=some (tx (u ++ [32]))):=aF (fun X q h=>by
   have h:=cQ h;obtain rfl | rfl | rfl | rfl | rfl | rfl:=xCN hu;all_goals rw [<- hu']
   ·exact h 0 _ rfl
   ·exact h 1 _ rfl
   ·exact h 2 _ rfl
   ·exact h 3 _ rfl
   ·exact h 4 _ rfl
   ·exact h 5 _ rfl)
  obtain ⟨m,rfl⟩:=bG hu.1;have hm:m<6:=by have:=hu.2;omega
  rw [bW] at HU;have hmi:(m:Int)<6:=by omega
  obtain ⟨v,hv⟩:∃v,u ++ [32]=v:=⟨_,rfl⟩;have hvl:v.length=u.length+1:=by rw [<- hv];simp
  rw [hv] at HU HE2;have hz2:¬(9223372036854775807<v.length+t.length):=by omega
  clear hu hu' HE hzt hul huna hbin hk hvl hv hm;obtain ⟨W,hW⟩:∃W,((((w.alloc (.cells ([Value.string b.name,.slice A1 b.regions.length c1,.slice A2 b.outl.length c2,.slice A3 b.types.length c3,.slice A4 b.locals.length c4,.int .i64 b.args,.slice A5 b.blocks.length c5]).toArray 28)).alloc (.cells ([Value.int .i64 3,.int .i64 m,.int .i64 rg,.bool mu,.int .i64 l0,.slice A ps.length c,.slice B ar.length d]).toArray 85)).alloc (.cells ([tx [110,101,103,32],tx [110,111,116,32]]).toArray 189)).alloc (.cells ([tx [97,100,100,32],tx [115,117,98,32],tx [109,117,108,32],tx [101,113,32],tx [108,116,32],tx [97,110,100,32]]).toArray 190))=W:=⟨_,rfl⟩;have HFW:=aF (HF.out [Value.int .i64 3,.int .i64 m,.int .i64 rg,.bool mu,.int .i64 l0,.slice A ps.length c,.slice B ar.length d] 85 W hW);have HBW:Hid (Below w.heap.size w W):=aF (hW ▸ HB0.out _ _ _ _);have hY:=cQ HFW.out.1;obtain ⟨t0,t1,t2,t3,t4,t5,t6⟩:=aS hY;have hZ:=cQ HFW.out.2.1;obtain ⟨e0,-,-,-,-,-,e6⟩:=aS hZ;clear HF HB0 hY hZ;go_enter Tryz.func84,Tryz.ntmps84
  go_wp2_with fail
  clear t0 t1 t2 t3 t4 t5 t6 e0 e6;have hS:W.drew.heap[w.heap.size]?=some (.cells ((bdM b A1 c1 A2 c2 A3 c3 A4 c4 A5 c5 [])).toArray 28 (0,0))/\W.drew.heap[w.heap.size+1]?=some (.cells ([Value.int .i64 3,.int .i64 m,.int .i64 rg,.bool mu,.int .i64 l0,.slice A ps.length c,.slice B ar.length d]).toArray 85 (0,0))/\W.drew.heap[w.heap.size+3]?=some (.cells ([tx [97,100,100,32],tx [115,117,98,32],tx [109,117,108,32],tx [101,113,32],tx [108,116,32],tx [97,110,100,32]]).toArray 190 (0,0)):=⟨HFW.out.1,HFW.out.2.1,HFW.out.2.2.2⟩;refine cR (S:=fun X=>X.heap[w.heap.size]?=some (.cells ((bdM b A1 c1 A2 c2 A3 c3 A4 c4 A5 c5 [])).toArray 28 (0,0))/\X.heap[w.heap.size+1]?=some (.cells ([Value.int .i64 3,.int .i64 m,.int .i64 rg,.bool mu,.int .i64 l0,.slice A ps.length c,.slice B ar.length d]).toArray 85 (0,0))/\X.heap[w.heap.size+3]?=some (.cells ([tx [97,100,100,32],tx [115,117,98,32],tx [109,117,108,32],tx [101,113,32],tx [108,116,32],tx [97,110,100,32]]).toArray 190 (0,0))) [0,1,2,3,4,5,6,7,8,9] (by kernel_rfl) ?_;(iterate 7 (refine cS (v:=?_) ?_ hS ?_;rotate_left;(next=>(rintro X ⟨hX,hE,hU⟩;have hY:=cQ hX;obtain ⟨t0,t1,t2,t3,t4,t5,t6⟩:=aS hY;have hZ:=cQ hE;obtain ⟨-,e1,-,-,-,-,e6⟩:=aS hZ;have u0:=HU.out _ _ hU;(try simp only [aI]);go_simp;rfl));simp only [aM]));(refine cV (fun K1 hK1=>?_);simp only [aM];rw [bA (by rfl)];go_simp);refine (HQ.out _ HBW.out.drew).mono ?_;rintro e' w3 ⟨rfl,hw3⟩;replace hS:=bJ (cP hS.1 hw3) (bJ (cP hS.2.1 hw3) (cP hS.2.2 hw3));have HB3:=aF (HBW.out.drew.trans (hw3.mono HBW.out.drew.size));clear hw3;refine hK1.out _ _ (fun _=>hS) ?_;refine cU (v:=tx (v ++ t)) (by kernel_rfl) (fun _ _ _ h=>h) (Or.inl ⟨by rfl,?_⟩) hS ?_
  ·rintro X hX;(try simp only [aI]);go_simp;exact fT v t
  (simp only [aM]);((refine cS (v:=?_) ?_ hS ?_;rotate_left;(next=>(rintro X -;(try simp only [aI]);go_simp;rfl));simp only [aM]))
  refine dA ?_;clear hS;go_wp2_with fail
  go_ret;exact ⟨by rw [HE2.out];rfl,HB3.out⟩
 ·simp at hzt;have hz1:¬(9223372036854775807<1+t.length):=by omega
  have hz2:¬(9223372036854775807<t.length+1+1):=by omega
  have hz3:¬(9223372036854775807<1+t.length+1):=by omega
  clear huna hbin hk;obtain ⟨W,hW⟩:∃W,((((w.alloc (.cells ([Value.string b.name,.slice A1 b.regions.length c1,.slice A2 b.outl.length c2,.slice A3 b.types.length c3,.slice A4 b.locals.length c4,.int .i64 b.args,.slice A5 b.blocks.length c5]).toArray 28)).alloc (.cells ([Value.int .i64 4,.int .i64 op,.int .i64 rg,.bool mu,.int .i64 l0,.slice A ps.length c,.slice B ar.length d]).toArray 85)).alloc (.cells ([tx [110,101,103,32],tx [110,111,116,32]]).toArray 189)).alloc (.cells ([tx [97,100,100,32],tx [115,117,98,32],tx [109,117,108,32],tx [101,113,32],tx [108,116,32],tx [97,110,100,32]]).toArray 190))=W:=⟨_,rfl⟩;have HFW:=aF (HF.out [Value.int .i64 4,.int .i64 op,.int .i64 rg,.bool mu,.int .i64 l0,.slice A ps.length c,.slice B ar.length d] 85 W hW);have HBW:Hid (Below w.heap.size w W):=aF (hW ▸ HB0.out _ _ _ _);have hY:=cQ HFW.out.1;obtain ⟨t0,t1,t2,t3,t4,t5,t6⟩:=aS hY;have hZ:=cQ HFW.out.2.1;obtain ⟨e0,-,-,-,-,-,e6⟩:=aS hZ;clear HF HB0 hY hZ;go_enter Tryz.func84,Tryz.ntmps84
  go_wp2_with (go_at_call 85;refine (HQ.out _ HBW.out).mono ?_;rintro e' w1 ⟨rfl,hb1⟩;have HB1:=aF (HBW.out.trans (hb1.mono HBW.out.size));clear hb1)
  go_ret;exact ⟨by rw [HE.out];refine congrArg (fun l=>Ending.returned (Value.string l)) (ByteArray.ext ?_);simp,HB1.out⟩
theorem rK (w:World) (l1 l2:List Value) (T1 T2:TypeId) (W:World) (h:((w.alloc (.cells l1.toArray T1)).alloc (.cells l2.toArray T2))=W):
 W.heap[w.heap.size]?=some (.cells l1.toArray T1 (0,0))/\W.heap[w.heap.size+1]?=some (.cells l2.toArray T2 (0,0))/\Below w.heap.size w W:=by
 subst h;have a1:=heap_alloc_new w (.cells l1.toArray T1);have s1:(w.alloc (.cells l1.toArray T1)).heap.size=w.heap.size+1:=bI _ _;have hb:=(aX w.heap.size w).alloc (aY _) (.cells l1.toArray T1);generalize (w.alloc (.cells l1.toArray T1))=w1 at *;have a2:=heap_alloc_new w1 (.cells l2.toArray T2);have a1:=cP a1 ((aX _ w1).alloc (aY _) (.cells l2.toArray T2));rw [s1] at a2;exact ⟨a1,a2,hb.alloc hb.size _⟩
theorem xDW (b:Bdy) (bh:BH) (w:World) (H:BdAt w b bh) (s:Stm) (A0 A B:Option Addr) (c0 c d:Nat) (hp0:Slc 2 RPj w A0 c0 s.place.proj) (hp:Slc 2 RPj w A c s.rv.place.proj) (ha:Slc 4 ROp w B d s.rv.args) (ho:OkSt b.locals b.regions s) (hf:FitS s) (hz:Sm (stmtP b.locals b.regions s)):
 Calls Tryz.prog 41 #[.agg (bdC b bh).toArray,.agg #[.int .i64 s.kind,.int .i64 s.place.loc,.slice A0 s.place.proj.length c0,.int .i64 s.rv.kind,.int .i64 s.rv.op,.int .i64 s.rv.reg,.bool s.rv.mu,.int .i64 s.rv.place.loc,.slice A s.rv.place.proj.length c,.slice B s.rv.args.length d,.int .i64 s.loc]] w fun e' w'=>e' = .returned (tx (stmtP b.locals b.regions s))/\Below w.heap.size w w':=by
 have HV0:=aF (fun (h1:s.kind=0) (hz:Sm (rvP b.locals b.regions s.rv)) (W:World) (hb:Below w.heap.size w W)=>rp_rv b bh W (H.keep hb) s.rv A B c d (hp.keep RPj.keeps hb) (ha.keep ROp.keeps hb) (ho.asg h1).2.2 hf.rv hz);have HP0:=aF (fun (h1:s.kind=0) (hz:Sm (placeP b.locals s.place)) (W:World) (hb:Below w.heap.size w W)=>iO b bh s.place A0 c0 W (H.keep hb) (hp0.keep RPj.keeps hb) (ho.asg h1).2.1.loc hf.pj hz)
 have hL:s.kind=1->∃bb oo j,bh.A4=some ⟨bb,oo,none⟩/\bb<w.heap.size/\s.loc=(j:Nat)/\j<b.locals.length/\w.cell? ⟨bb,oo+j * 2,none⟩=some (tx (nmP b.locals s.loc)):=fun h1=>by
  have hl:=ho.dead h1;obtain ⟨j,hj⟩:=bG hl.1;have hk:j<b.locals.length:=by have:=hl.2;omega
  obtain ⟨bb,oo,hA4,hbb,hx⟩:=H.loc.sl.at_ hk;refine ⟨bb,oo,j,hA4,hbb,hj,hk,?_⟩;rw [hj,nm_at hk];have:=hx.1;rw [gD (b.locals[j]).name] at this;exact this
 have hle:=H.loc.le;have hbig:=H.loc.big;obtain ⟨A1,c1,A2,c2,A3,c3,A4,c4,A5,c5⟩:=bh;have HV:Hid ((h1:s.kind=0)->(hz:Sm (rvP b.locals b.regions s.rv))->∀W,Below w.heap.size w W->Calls Tryz.prog 84 #[.agg #[Value.string b.name,.slice A1 b.regions.length c1,.slice A2 b.outl.length c2,.slice A3 b.types.length c3,.slice A4 b.locals.length c4,.int .i64 b.args,.slice A5 b.blocks.length c5],.agg #[.int .i64 s.rv.kind,.int .i64 s.rv.op,.int .i64 s.rv.reg,.bool s.rv.mu,.int .i64 s.rv.place.loc,.slice A s.rv.place.proj.length c,.slice B s.rv.args.length d]] W fun e' w'=>e' = .returned (tx (rvP b.locals b.regions s.rv))/\Below W.heap.size W w'):=HV0;have HP:Hid ((h1:s.kind=0)->(hz:Sm (placeP b.locals s.place))->∀W,Below w.heap.size w W->Calls Tryz.prog 50 #[.agg #[Value.string b.name,.slice A1 b.regions.length c1,.slice A2 b.outl.length c2,.slice A3 b.types.length c3,.slice A4 b.locals.length c4,.int .i64 b.args,.slice A5 b.blocks.length c5],.agg #[.int .i64 s.place.loc,.slice A0 s.place.proj.length c0]] W fun e' w'=>e' = .returned (tx (placeP b.locals s.place))/\Below W.heap.size W w'):=HP0;have HF:=aF (fun (l2:List Value)=>rK w [Value.string b.name,.slice A1 b.regions.length c1,.slice A2 b.outl.length c2,.slice A3 b.types.length c3,.slice A4 b.locals.length c4,.int .i64 b.args,.slice A5 b.blocks.length c5] l2 28 87);have hk:=ho.kind;obtain ⟨k,⟨l0,ps⟩,⟨vk,vo,vr,vm,⟨l1,qs⟩,ar⟩,lo⟩:=s;simp only at hk HV HP hL hle hbig ⊢;clear H hp0 hp ha ho hf HV0 HP0;unfold bdC;obtain rfl | rfl | rfl:k=0\/k=1\/k=2:=by omega
 ·obtain ⟨q,hq⟩:∃q,placeP b.locals ⟨l0,ps⟩=q:=⟨_,rfl⟩;obtain ⟨v,hv⟩:∃v,rvP b.locals b.regions ⟨vk,vo,vr,vm,⟨l1,qs⟩,ar⟩=v:=⟨_,rfl⟩;have HE:Hid (stmtP b.locals b.regions ⟨0,⟨l0,ps⟩,⟨vk,vo,vr,vm,⟨l1,qs⟩,ar⟩,lo⟩=q ++ [32,61,32] ++ v):=aF (by unfold stmtP;rw [bA rfl,hq,hv]);rw [HE.out] at hz;simp only [Sm,bB,bK,bP] at hz;have HQ:=aF (HP.out rfl (by rw [hq];show q.length<=_;omega));have HQ2:=aF (HV.out rfl (by rw [hv];show v.length<=_;omega));rw [hq] at HQ;rw [hv] at HQ2;have hz1:¬(9223372036854775807<q.length+3):=by omega
  have hz2:¬(9223372036854775807<q.length+3+v.length):=by omega
  clear hz hq hv HV HP hL;obtain ⟨W,hW⟩:∃W,((w.alloc (.cells ([Value.string b.name,.slice A1 b.regions.length c1,.slice A2 b.outl.length c2,.slice A3 b.types.length c3,.slice A4 b.locals.length c4,.int .i64 b.args,.slice A5 b.blocks.length c5]).toArray 28)).alloc (.cells ([Value.int .i64 0,.int .i64 l0,.slice A0 ps.length c0,.int .i64 vk,.int .i64 vo,.int .i64 vr,.bool vm,.int .i64 l1,.slice A qs.length c,.slice B ar.length d,.int .i64 lo]).toArray 87))=W:=⟨_,rfl⟩;have HFW:=aF (HF.out [Value.int .i64 0,.int .i64 l0,.slice A0 ps.length c0,.int .i64 vk,.int .i64 vo,.int .i64 vr,.bool vm,.int .i64 l1,.slice A qs.length c,.slice B ar.length d,.int .i64 lo] W hW);have HBW:=aF HFW.out.2.2;have e0:=cQ HFW.out.2.1 0 _ rfl;clear HF;go_enter Tryz.func41,Tryz.ntmps41
  go_wp2_with fail
  clear e0;have hS:W.drew.heap[w.heap.size]?=some (.cells ((bdM b A1 c1 A2 c2 A3 c3 A4 c4 A5 c5 [])).toArray 28 (0,0))/\W.drew.heap[w.heap.size+1]?=some (.cells ([Value.int .i64 0,.int .i64 l0,.slice A0 ps.length c0,.int .i64 vk,.int .i64 vo,.int .i64 vr,.bool vm,.int .i64 l1,.slice A qs.length c,.slice B ar.length d,.int .i64 lo]).toArray 87 (0,0)):=⟨HFW.out.1,HFW.out.2.1⟩;refine cR (S:=fun X=>X.heap[w.heap.size]?=some (.cells ((bdM b A1 c1 A2 c2 A3 c3 A4 c4 A5 c5 [])).toArray 28 (0,0))/\X.heap[w.heap.size+1]?=some (.cells ([Value.int .i64 0,.int .i64 l0,.slice A0 ps.length c0,.int .i64 vk,.int .i64 vo,.int .i64 vr,.bool vm,.int .i64 l1,.slice A qs.length c,.slice B ar.length d,.int .i64 lo]).toArray 87 (0,0))) [0,1,2,5,6,7,3,4,8,9,10] (by kernel_rfl) ?_;(iterate 6 (refine cS (v:=?_) ?_ hS ?_;rotate_left;(next=>(rintro X ⟨hX,hE⟩;have hY:=cQ hX;obtain ⟨t0,t1,t2,t3,t4,t5,t6⟩:=aS hY;have hZ:=cQ hE;obtain ⟨-,e1,e2,e3,e4,e5,e6,e7,e8,e9⟩:=aV hZ;(try simp only [aI]);go_simp;rfl));simp only [aM]));(refine cV (fun K1 hK1=>?_);simp only [aM];rw [bA (by rfl)];go_simp);refine (HQ.out _ HBW.out.drew).mono ?_;rintro e' w3 ⟨rfl,hw3⟩;replace hS:=bJ (cP hS.1 hw3) (cP hS.2 hw3);have HB3:=aF (HBW.out.drew.trans (hw3.mono HBW.out.drew.size));clear hw3;refine hK1.out _ _ (fun _=>hS) ?_;refine cU (v:=tx (q ++ [32,61,32])) (by kernel_rfl) (fun _ _ _ h=>h) (Or.inl ⟨by rfl,?_⟩) hS ?_
  ·rintro X hX;(try simp only [aI]);go_simp;exact ba_app' _ _
  (simp only [aM]);(refine cV (fun K1 hK1=>?_);simp only [aM];rw [bA (by rfl)];go_simp);refine (HQ2.out _ HB3.out).mono ?_;rintro e' w4 ⟨rfl,hw4⟩;replace hS:=bJ (cP hS.1 hw4) (cP hS.2 hw4);have HB4:=aF (HB3.out.trans (hw4.mono HB3.out.size));clear hw4;refine hK1.out _ _ (fun _=>hS) ?_;refine cU (v:=tx (q ++ 32 :: 61 :: 32 :: v)) (by kernel_rfl) (fun _ _ _ h=>h) (Or.inl ⟨by rfl,?_⟩) hS ?_
  ·rintro X hX;(try simp only [aI]);go_simp;exact (fT _ _).trans (by simp)
  (simp only [aM]);((refine cS (v:=?_) ?_ hS ?_;rotate_left;(next=>(rintro X -;(try simp only [aI]);go_simp;rfl));simp only [aM]))
  refine dA ?_;clear hS;go_wp2_with fail
  go_ret;exact ⟨by rw [HE.out];refine congrArg (fun l=>Ending.returned (Value.string l)) (ByteArray.ext ?_);simp,HB4.out⟩
 ·obtain ⟨bb,oo,j,rfl,hbb,rfl,hj,x0⟩:=hL rfl;obtain ⟨nm,hnm⟩:∃nm,nmP b.locals (j:Int)=nm:=⟨_,rfl⟩;rw [hnm] at x0;have HE:Hid (stmtP b.locals b.regions ⟨1,⟨l0,ps⟩,⟨vk,vo,vr,vm,⟨l1,qs⟩,ar⟩,j⟩=[100,101,97,100,32,37] ++ nm):=aF (by rw [<- hnm];rfl);rw [HE.out] at hz;simp only [Sm,bB,bK,bP] at hz;have hz1:¬(9223372036854775807<6+nm.length):=by omega
  have HB:=aF (fun (o o2:Obj)=>((aX w.heap.size w).alloc (aY _) o).alloc (by simp) o2);clear hz hnm HV HP HF hL;go_enter Tryz.func41,Tryz.ntmps41
  go_wp2_with fail
  go_ret;exact ⟨by rw [HE.out];refine congrArg (fun l=>Ending.returned (Value.string l)) (ByteArray.ext ?_);simp,HB.out _ _⟩
 ·have HE:Hid (stmtP b.locals b.regions ⟨2,⟨l0,ps⟩,⟨vk,vo,vr,vm,⟨l1,qs⟩,ar⟩,lo⟩=[110,111,112]):=aF rfl;have HB:=aF (fun (o o2:Obj)=>((aX w.heap.size w).alloc (aY _) o).alloc (by simp) o2);clear HV HP HF hL hz;go_enter Tryz.func41,Tryz.ntmps41
  go_wp2_with fail
  go_ret;exact ⟨by rw [HE.out];rfl,HB.out _ _⟩
theorem gPowT:(Tryz.prog.globals[5]?).map (·.type)=some 283:=by kernel_rfl
theorem gSpT:(Tryz.prog.globals[2]?).map (·.type)=some 229:=by kernel_rfl
theorem xFL:Tryz.prog.cellsOf 225=1:=by kernel_rfl
theorem xHC:Tryz.prog.cellsOf 5=1:=by kernel_rfl
theorem xHB:Tryz.prog.cellsOf 283=20:=by kernel_rfl
theorem xHA:Tryz.prog.cellsOf 229=256:=by kernel_rfl
theorem xFQ {w:World} (h:laidMetH Tryz.prog Rows.printerMatchesReferenceRow.laid w):TabsOk w/\PowTab w/\SpTab w:=by
 rw [MakeChecks.laidMetH_plain _ _ _ (by kernel_rfl)] at h;have h6:=h.tail.tail.tail.tail.tail.tail
 exact ⟨⟨mV gUn gUnT Tryz.underlying214 rfl (by omega) (by omega) (l:=jB) h6,
  mV gBi gBiT Tryz.underlying215 rfl (by omega) (by omega) (l:=gB) h6.tail⟩,
  Lib.tabIs_of_head gPow gPowT Tryz.underlying283 Tryz.underlying225 xFL xHB h.tail.tail,
  Lib.tabIs_of_head gSp gSpT Tryz.underlying229 Tryz.underlying5 xHC xHA h.tail.tail.tail.tail.tail⟩
theorem cT {a b:Bool} (ha:a=true) (hb:b=true):(a && b)=true:=by rw [ha,hb];rfl
theorem iI:(Rows.printerMatchesReferenceRow.wf (OpenSpec.ofChange Rows.printerMatchesReferenceSpec))=true:=by kernel_rfl
theorem iH:(laidOutB Tryz.prog)=true:=by kernel_rfl
theorem iG:(mapsRowed Tryz.prog)=true:=by kernel_rfl
theorem iF:(Tryz.f3.params.all (Tryz.prog.readableRec ·))=true:=by kernel_rfl
theorem iE:(namedTie Tryz.prog Rows.printerMatchesReferenceRow.named Rows.printerMatchesReferenceSpec.vars)=true:=by kernel_rfl
theorem iD:((Rows.printerMatchesReferenceRow.stops == []))=true:=by kernel_rfl
theorem iC:((Tryz.prog.stops == []))=true:=by kernel_rfl
theorem iB:((Rows.printerMatchesReferenceRow.knobs == []))=true:=by kernel_rfl
theorem iA:((Tryz.prog.stopKnobs == []))=true:=by kernel_rfl
theorem hO:((Rows.printerMatchesReferenceRow.inPlace == Tryz.prog.inPlace 3))=true:=by kernel_rfl
theorem gZ:((Rows.printerMatchesReferenceRow.unfollowed == Tryz.prog.unfollowed 3))=true:=by kernel_rfl
theorem gY:((Rows.printerMatchesReferenceRow.recurses == Tryz.prog.recurses 3))=true:=by kernel_rfl
theorem gX:((Rows.printerMatchesReferenceRow.named == Tryz.prog.varsNamed 3))=true:=by kernel_rfl
theorem gW:((Rows.printerMatchesReferenceRow.maps == (Tryz.f3.params.toList ++ Rows.printerMatchesReferenceSpec.plain.varTypes Tryz.prog).any (Tryz.prog.mapsRec ·)))=true:=by kernel_rfl
theorem gV:((Rows.printerMatchesReferenceRow.ifaces == (Tryz.f3.params.toList ++ Rows.printerMatchesReferenceSpec.plain.varTypes Tryz.prog).any (Tryz.prog.ifacesRec ·)))=true:=by kernel_rfl
theorem gU:((Rows.printerMatchesReferenceRow.mapsOut == Tryz.prog.mapsAmong Tryz.f3.resultTypes.toList))=true:=by kernel_rfl
theorem gT:((Rows.printerMatchesReferenceRow.loops == (Tryz.f3.params.toList ++ Rows.printerMatchesReferenceSpec.plain.varTypes Tryz.prog).any (Tryz.prog.loopsFrom ·)))=true:=by kernel_rfl
theorem gS:((Rows.printerMatchesReferenceRow.wideKeys == (Tryz.f3.params.toList ++ Rows.printerMatchesReferenceSpec.plain.varTypes Tryz.prog ++ Tryz.f3.resultTypes.toList).any (Tryz.prog.wideKeysFrom ·)))=true:=by kernel_rfl
theorem gR:(Rows.printerMatchesReferenceSpec.vars.all (Tryz.prog.varReadable ·))=true:=by kernel_rfl
theorem gQ:(Tryz.f3.resultTypes.all (fun t=>Tryz.prog.readableRec t && decide (t<Tryz.prog.types.size)))=true:=by kernel_rfl
theorem gP:((Rows.printerMatchesReferenceRow.ifacesOut == Tryz.f3.resultTypes.toList.any (Tryz.prog.ifacesRec ·)))=true:=by kernel_rfl
theorem gO:((Rows.printerMatchesReferenceRow.loopsOut == Tryz.f3.resultTypes.toList.any (Tryz.prog.loopsFrom ·)))=true:=by kernel_rfl
theorem gN:((Rows.printerMatchesReferenceRow.plainKeys == Tryz.prog.plainKeys))=true:=by kernel_rfl
theorem gM:(Rows.printerMatchesReferenceRow.shortTexts.isNone)=true:=by kernel_rfl
theorem gL:(Tryz.prog.stopsHeard)=true:=by kernel_rfl
theorem gK:(Tryz.prog.mayEnter)=true:=by kernel_rfl
theorem gJ:((Rows.printerMatchesReferenceRow.lifted == Tryz.prog.liftsFinal))=true:=by kernel_rfl
theorem gI:((Tryz.prog.make == some Rows.printerMatchesReferenceRow.make))=true:=by kernel_rfl
theorem gH:((Rows.printerMatchesReferenceRow.kinds == (if Rows.printerMatchesReferenceRow.domain.isEmpty then [] else Tryz.f3.params.toList.map fun t=>match Tryz.prog.underlying t with | some (.int k)=>some k | _=>none)))=true:=by kernel_rfl
theorem gG:((Rows.printerMatchesReferenceRow.pinned == Rows.printerMatchesReferenceRow.pinnedBy))=true:=by kernel_rfl
theorem gF:((Rows.printerMatchesReferenceRow.veiled == (Tryz.f3.params.toList ++ Rows.printerMatchesReferenceSpec.plain.varTypes Tryz.prog ++ Tryz.f3.resultTypes.toList).any (Tryz.prog.veiledRec ·)))=true:=by kernel_rfl
theorem gE:(Rows.printerMatchesReferenceRow.veiledFits Tryz.prog Tryz.f3.params.toList (Tryz.f3.params.toList ++ Rows.printerMatchesReferenceSpec.plain.varTypes Tryz.prog ++ Tryz.f3.resultTypes.toList))=true:=by kernel_rfl
theorem fI:joinedFacts Tryz.prog 3 Tryz.f3 Rows.printerMatchesReferenceSpec Rows.printerMatchesReferenceRow=true:=(cT (cT (cT (cT (cT (cT (cT (cT (cT (cT (cT (cT (cT (cT (cT (cT (cT (cT (cT (cT (cT (cT (cT (cT (cT (cT (cT (cT (cT (cT (cT iI iH) iG) iF) iE) iD) iC) iB) iA) hO) gZ) gY) gX) gW) gV) gU) gT) gS) gR) gQ) gP) gO) gN) gM) gL) gK) gJ) gI) gH) gG) gF) gE)
end
end Go.Proofs.YtmknfbfppmkcfaaGreatDoor
