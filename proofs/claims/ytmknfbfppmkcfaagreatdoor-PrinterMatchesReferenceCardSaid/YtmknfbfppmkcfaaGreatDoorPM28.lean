/-
  Parts of the proof: Y38.
-/
import Derived.Test.YtmknfbfppmkcfaaGreatDoorPM0
import Derived.Test.YtmknfbfppmkcfaaGreatDoorPM19
import Derived.Test.YtmknfbfppmkcfaaGreatDoorPM27
import Derived.Test.YtmknfbfppmkcfaaGreatDoorPM24
import Derived.Deep.CutBlock
namespace Go.Proofs.YtmknfbfppmkcfaaGreatDoor
set_option maxRecDepth 100000
set_option maxHeartbeats 16000000
section
open Go Go.RowKit
theorem uC (b:Bdy) (bh:BH) (w:World) (H:BdAt w b bh) (hnm:NmOk b) (hf:FitB b) (hz:chkB b=0->(printP b).length<=100000000000000):
 Calls Tryz.prog 11 #[.agg (bdC b bh).toArray] w fun e' w'=>e' = .returned (if chkB b=0 then .tuple #[tx (printP b),.int .i64 0] else .tuple #[tx [],.int .i64 16])/\Below w.heap.size w w':=by
 have HB0:=aF (fun (o:Obj)=>(aX w.heap.size w).alloc (aY _) o);have HK0:=aF (fun (W:World) (hb:Below w.heap.size w W)=>qO b bh W (H.keep hb) hnm);have HTY0:=aF (fun (t:Ty) (ho:OkTy b.regions t) (hf:FitT t) (hz:Sm (typeP b.regions t)) (W:World) (hb:Below w.heap.size w W) (A:Option Addr) (c:Nat) (hp:Slc 1 RInt W A c t.flds)=>xDU b bh W (H.keep hb) t A c hp ho hf hz);have HSM0:=aF (fun (s:Stm) (ho:OkSt b.locals b.regions s) (hf:FitS s) (hz:Sm (stmtP b.locals b.regions s)) (W:World) (hb:Below w.heap.size w W) (A0 A B:Option Addr) (c0 c d:Nat) (h0:Slc 2 RPj W A0 c0 s.place.proj) (h1:Slc 2 RPj W A c s.rv.place.proj) (h2:Slc 4 ROp W B d s.rv.args)=>xDW b bh W (H.keep hb) s A0 A B c0 c d h0 h1 h2 ho hf hz);have HTM0:=aF (fun (t:Trm) (ho:OkTm b.locals t) (hf:FitTm t) (hz:Sm (termP b.locals t)) (W:World) (hb:Below w.heap.size w W) (G A B:Option Addr) (ct c d:Nat) (hg:Slc 1 RInt W G ct t.targets) (ha:Slc 4 ROp W B d t.args) (hp:Slc 2 RPj W A c t.place.proj)=>xDV b bh W (H.keep hb) t G A B ct c d hg ha hp ho hf hz);obtain ⟨A1,c1,A2,c2,A3,c3,A4,c4,A5,c5⟩:=bh;have HK:Hid (∀W,Below w.heap.size w W->Calls Tryz.prog 17 #[.agg ([Value.string b.name,.slice A1 b.regions.length c1,.slice A2 b.outl.length c2,.slice A3 b.types.length c3,.slice A4 b.locals.length c4,.int .i64 b.args,.slice A5 b.blocks.length c5]).toArray] W fun e' w'=>e' = .returned (.int .i64 (chkB b))/\Below W.heap.size W w'):=aF (fun W hb=>HK0.out W hb);have HTY:Hid (∀(t:Ty) (ho:OkTy b.regions t) (hf:FitT t) (hz:Sm (typeP b.regions t)) (W:World) (hb:Below w.heap.size w W) (A:Option Addr) (c:Nat) (hp:Slc 1 RInt W A c t.flds),Calls Tryz.prog 40 #[.agg #[Value.string b.name,.slice A1 b.regions.length c1,.slice A2 b.outl.length c2,.slice A3 b.types.length c3,.slice A4 b.locals.length c4,.int .i64 b.args,.slice A5 b.blocks.length c5],.agg #[.int .i64 t.kind,.bool t.mu,.int .i64 t.reg,.int .i64 t.elem,.slice A t.flds.length c]] W fun e' w'=>e' = .returned (tx (typeP b.regions t))/\Below W.heap.size W w'):=HTY0;have HSM:Hid (∀(s:Stm) (ho:OkSt b.locals b.regions s) (hf:FitS s) (hz:Sm (stmtP b.locals b.regions s)) (W:World) (hb:Below w.heap.size w W) (A0 A B:Option Addr) (c0 c d:Nat) (h0:Slc 2 RPj W A0 c0 s.place.proj) (h1:Slc 2 RPj W A c s.rv.place.proj) (h2:Slc 4 ROp W B d s.rv.args),Calls Tryz.prog 41 #[.agg #[Value.string b.name,.slice A1 b.regions.length c1,.slice A2 b.outl.length c2,.slice A3 b.types.length c3,.slice A4 b.locals.length c4,.int .i64 b.args,.slice A5 b.blocks.length c5],.agg #[.int .i64 s.kind,.int .i64 s.place.loc,.slice A0 s.place.proj.length c0,.int .i64 s.rv.kind,.int .i64 s.rv.op,.int .i64 s.rv.reg,.bool s.rv.mu,.int .i64 s.rv.place.loc,.slice A s.rv.place.proj.length c,.slice B s.rv.args.length d,.int .i64 s.loc]] W fun e' w'=>e' = .returned (tx (stmtP b.locals b.regions s))/\Below W.heap.size W w'):=HSM0;have HTM:Hid (∀(t:Trm) (ho:OkTm b.locals t) (hf:FitTm t) (hz:Sm (termP b.locals t)) (W:World) (hb:Below w.heap.size w W) (G A B:Option Addr) (ct c d:Nat) (hg:Slc 1 RInt W G ct t.targets) (ha:Slc 4 ROp W B d t.args) (hp:Slc 2 RPj W A c t.place.proj),Calls Tryz.prog 42 #[.agg #[Value.string b.name,.slice A1 b.regions.length c1,.slice A2 b.outl.length c2,.slice A3 b.types.length c3,.slice A4 b.locals.length c4,.int .i64 b.args,.slice A5 b.blocks.length c5],.agg #[.int .i64 t.kind,.slice G t.targets.length ct,.slice B t.args.length d,.int .i64 t.place.loc,.slice A t.place.proj.length c,.string t.name]] W fun e' w'=>e' = .returned (tx (termP b.locals t))/\Below W.heap.size W w'):=HTM0;have HN0:=aF (heap_alloc_new w (.cells ([Value.string b.name,.slice A1 b.regions.length c1,.slice A2 b.outl.length c2,.slice A3 b.types.length c3,.slice A4 b.locals.length c4,.int .i64 b.args,.slice A5 b.blocks.length c5]).toArray 28));have hr1:=H.reg.le;have hr2:=H.reg.big;have ho1:=H.out.le;have ho2:=H.out.big;have ht1:=H.typ.le;have ht2:=H.typ.big;have hl1:=H.loc.le;have hl2:=H.loc.big;have hb1:=H.blk.le;have hb2:=H.blk.big;have HH:=aF H;have HF:=aF hf;have HZ:=aF hz;simp only at hr1 hr2 ho1 ho2 ht1 ht2 hl1 hl2 hb1 hb2;clear HK0 HTY0 HSM0 HTM0 H hf hz hnm;by_cases hc:chkB b=0
 case neg=>
  rw [aZ hc];obtain ⟨c,hce⟩:∃c,chkB b=c:=⟨_,rfl⟩;rw [hce] at hc HK;have e1:(c != 0)=true:=by simp [hc]
  clear hce hc HZ HF HN0 HTY HSM HTM;unfold bdC;go_enter Tryz.func11,Tryz.ntmps11
  go_wp2_with (go_at_call 17;refine (HK.out _ (HB0.out _)).mono ?_;rintro e' w1 ⟨rfl,hw1⟩;have HB1:=aF ((HB0.out _).trans (hw1.mono (HB0.out _).size));clear hw1)
  refine bodyPost_ret (v:= .tuple #[tx [],.int .i64 16]) (by simp [results,Tryz.results11,go_sem] <;> rfl) rfl ⟨rfl,HB1.out⟩
 case pos=>
 rw [bA hc];have HOK:=aF (sJ hc);have HDK:=aF (dS (ychk hc).1);have HZ2:=aF (HZ.out hc);have hcc0:=hc;rw [hc] at HK;have HCK:=aF hcc0;have HT0:Hid (printP b=headP [98,111,100,121] b ++ qR1 b 0):=aF ((mM b).trans (by rw [xAS]));have hzl:=dT HT0.out HZ2.out;have hhl:(headP [98,111,100,121] b).length=b.name.size+9:=by simp [headP]
 obtain ⟨H2,hH2⟩:∃H2,headP [98,111,100,121] b=H2:=⟨_,rfl⟩;obtain ⟨H1,hH1⟩:∃H1,[98,111,100,121,32,64] ++ bl b.name=H1:=⟨_,rfl⟩;have h1l:H1.length=b.name.size+6:=by rw [<- hH1];simp
 have ea:(⟨#[98,111,100,121,32,64]⟩:ByteArray) ++ b.name=⟨H1.toArray⟩:=by rw [<- hH1];exact (ba_app' _ _).trans (by simp [bl])
 have eb:(⟨H1.toArray⟩:ByteArray) ++ ⟨#[32,123,10]⟩=⟨H2.toArray⟩:=by rw [<- hH1,<- hH2,headP];exact (ba_app' _ _).trans (by simp [bl])
 rw [hH2] at HT0 hzl hhl;have hz0:¬(9223372036854775807<6+b.name.size):=by omega
 have hz1:¬(9223372036854775807<H1.length+3):=by omega
 clear hc hcc0 HZ hzl hhl h1l hH1 hH2;unfold bdC at *;go_enter Tryz.func11,Tryz.ntmps11
 go_wp2_with (go_at_call 17;refine (HK.out _ (HB0.out _)).mono ?_)
 rintro e' w1 ⟨rfl,hw1⟩;have HB1:=aF ((HB0.out _).trans (hw1.mono (HB0.out _).size));have HX1:=aF (cP HN0.out hw1);have y0:=cQ (l:=(bdM b A1 c1 A2 c2 A3 c3 A4 c4 A5 c5 [])) HX1.out 0 _ rfl;clear hw1 HK HN0;go_upto_block 0 with fail
 go_cut [4,5] (fun s ix wx=>∃bs,s=tx bs/\printP b=bs ++ qR2 b 0/\Below w.heap.size w wx/\wx.heap[w.heap.size]?=some (.cells ((bdM b A1 c1 A2 c2 A3 c3 A4 c4 A5 c5 [])).toArray 28 (0,0)))
 case first=>
  clear ea eb hz0 hz1 y0;have hcc:=cQ (l:=(bdM b A1 c1 A2 c2 A3 c3 A4 c4 A5 c5 [])) HX1.out;obtain ⟨y0,y1,y2,y3,y4,y5,y6⟩:=aS hcc;clear hcc;go_wp2_with fail
  go_loopw [4,5] (fun s i wr=>∃(k:Nat) (bs:List UInt8),i = .int .i64 k/\k<=b.regions.length/\s=tx bs/\Hid (printP b=bs ++ qR1 b k)/\Hid (Below w.heap.size w wr)/\Hid (wr.heap[w.heap.size]?=some (.cells ((bdM b A1 c1 A2 c2 A3 c3 A4 c4 A5 c5 [])).toArray 28 (0,0)))) (fun _ i _=>b.regions.length - (intOf i).toNat)
  case atStart=>exact ⟨0,H2,rfl,Nat.zero_le _,rfl,HT0,HB1,HX1⟩
  case round=>
   clear HT0 HB1 HX1;obtain ⟨k,bs,rfl,hk,rfl,HT,HB,HX⟩:=hrel;clear y0 y1 y2 y3 y4 y5 y6;by_cases hlt:k<b.regions.length
   case neg=>
    have HE:=aF (xEB (b:=b) (i:=k) (by omega));have hcc:=cQ (l:=(bdM b A1 c1 A2 c2 A3 c3 A4 c4 A5 c5 [])) HX.out;obtain ⟨y0,y1,y2,y3,y4,y5,y6⟩:=aS hcc;clear hcc;go_wp2_with fail
    go_meet;exact ⟨bs,rfl,by rw [HT.out,HE.out],HB.out,HX.out⟩
   case pos=>
    obtain ⟨bb,oo,rfl,hbb,y⟩:=(HH.out.reg.keep RN.keeps HB.out).sl.at_ hlt;have HTN:=aF (HT.out.trans (by rw [xAT hlt]));obtain ⟨n,hn⟩:∃n,bl b.regions[k]=n:=⟨_,rfl⟩
    have x0:wr.cell? ⟨bb,oo+k,none⟩=some (tx n):=by
     have h:=y;unfold RN at h;rw [Nat.mul_one,gD b.regions[k],hn] at h;exact h
    rw [hn] at HTN;obtain ⟨M,hM⟩:∃M,(39:UInt8) :: n=M:=⟨_,rfl⟩;have hml:M.length=n.length+1:=by rw [<- hM];simp
    have ea:(⟨#[39]⟩:ByteArray) ++ ⟨n.toArray⟩=⟨M.toArray⟩:=by rw [<- hM];exact (ba_app' _ _).trans (by simp [bl])
    rw [hM] at HTN;have hzl:=dT HTN.out HZ2.out;have hk1:(k:Int)+1<=9223372036854775807:=(by omega);clear hn hM y HT;rcases Nat.eq_zero_or_pos k with h0 | h0
    ·obtain ⟨P,hP⟩:∃P,bs ++ [32,32,114,101,103,105,111,110,115,32]=P:=⟨_,rfl⟩;have hpl:P.length=bs.length+10:=by rw [<- hP];simp
     have eb:(⟨bs.toArray⟩:ByteArray) ++ ⟨#[32,32,114,101,103,105,111,110,115,32]⟩=⟨P.toArray⟩:=by rw [<- hP];exact (ba_app' _ _).trans (by simp [bl])
     obtain ⟨Q,hQ⟩:∃Q,P ++ M=Q:=⟨_,rfl⟩;have hql:Q.length=P.length+M.length:=by rw [<- hQ];simp
     have ec:(⟨P.toArray⟩:ByteArray) ++ ⟨M.toArray⟩=⟨Q.toArray⟩:=by rw [<- hQ];exact (ba_app' _ _).trans (by simp [bl])
     by_cases hla:k+1=b.regions.length
     ·obtain ⟨R,hR⟩:∃R,Q ++ [59,10]=R:=⟨_,rfl⟩;have ed:(⟨Q.toArray⟩:ByteArray) ++ ⟨#[59,10]⟩=⟨R.toArray⟩:=by rw [<- hR];exact (ba_app' _ _).trans (by simp [bl])
      have HTX:Hid (printP b=R ++ qR1 b (k+1)):=aF (by rw [HTN.out,bA h0,bA hla,<- hR,<- hQ,<- hP,semP];simp);rw [bA h0,bA hla] at hzl;simp only [semP,bB,bK,bP] at hzl;have hz1:¬(9223372036854775807<bs.length+10):=(by omega);have hz2:¬(9223372036854775807<1+n.length):=(by omega);have hz3:¬(9223372036854775807<P.length+M.length):=(by omega);have hz4:¬(9223372036854775807<Q.length+2):=(by omega);have hlb:((k:Int) == (b.regions.length:Int) - 1)=true:=by rw [beq_iff_eq];omega
      have hkb:((k:Int) == 0)=true:=by rw [beq_iff_eq];omega
      clear hR hQ hP hzl hpl hml hql HTN h0 hla;have hcc:=cQ (l:=(bdM b (some ⟨bb,oo,none⟩) c1 A2 c2 A3 c3 A4 c4 A5 c5 [])) HX.out;obtain ⟨y0,y1,y2,y3,y4,y5,y6⟩:=aS hcc;clear hcc;go_wp2_with fail
      go_roundw
      case rel=>exact ⟨k+1,R,by go_num,by omega,rfl,HTX,HB,HX⟩
      case measure=>simp [intOf];omega
     ·have HTX:Hid (printP b=Q ++ qR1 b (k+1)):=aF (by rw [HTN.out,bA h0,aZ hla,<- hQ,<- hP];simp);rw [bA h0,aZ hla] at hzl;simp only [bB,bK,bP] at hzl;have hz1:¬(9223372036854775807<bs.length+10):=(by omega);have hz2:¬(9223372036854775807<1+n.length):=(by omega);have hz3:¬(9223372036854775807<P.length+M.length):=(by omega);have hlb:((k:Int) == (b.regions.length:Int) - 1)=false:=by rw [beq_eq_false_iff_ne];omega
      have hkb:((k:Int) == 0)=true:=by rw [beq_iff_eq];omega
      clear hQ hP hzl hpl hml hql HTN h0 hla;have hcc:=cQ (l:=(bdM b (some ⟨bb,oo,none⟩) c1 A2 c2 A3 c3 A4 c4 A5 c5 [])) HX.out;obtain ⟨y0,y1,y2,y3,y4,y5,y6⟩:=aS hcc;clear hcc;go_wp2_with fail
      go_roundw
      case rel=>exact ⟨k+1,Q,by go_num,by omega,rfl,HTX,HB,HX⟩
      case measure=>simp [intOf];omega
    ·obtain ⟨P,hP⟩:∃P,bs ++ [44,32]=P:=⟨_,rfl⟩;have hpl:P.length=bs.length+2:=by rw [<- hP];simp
     have eb:(⟨bs.toArray⟩:ByteArray) ++ ⟨#[44,32]⟩=⟨P.toArray⟩:=by rw [<- hP];exact (ba_app' _ _).trans (by simp [bl])
     obtain ⟨Q,hQ⟩:∃Q,P ++ M=Q:=⟨_,rfl⟩;have hql:Q.length=P.length+M.length:=by rw [<- hQ];simp
     have ec:(⟨P.toArray⟩:ByteArray) ++ ⟨M.toArray⟩=⟨Q.toArray⟩:=by rw [<- hQ];exact (ba_app' _ _).trans (by simp [bl])
     by_cases hla:k+1=b.regions.length
     ·obtain ⟨R,hR⟩:∃R,Q ++ [59,10]=R:=⟨_,rfl⟩;have ed:(⟨Q.toArray⟩:ByteArray) ++ ⟨#[59,10]⟩=⟨R.toArray⟩:=by rw [<- hR];exact (ba_app' _ _).trans (by simp [bl])
      have HTX:Hid (printP b=R ++ qR1 b (k+1)):=aF (by rw [HTN.out,aZ (Nat.pos_iff_ne_zero.1 h0),bA hla,<- hR,<- hQ,<- hP,semP];simp);rw [aZ (Nat.pos_iff_ne_zero.1 h0),bA hla] at hzl;simp only [semP,bB,bK,bP] at hzl;have hz1:¬(9223372036854775807<bs.length+2):=(by omega);have hz2:¬(9223372036854775807<1+n.length):=(by omega);have hz3:¬(9223372036854775807<P.length+M.length):=(by omega);have hz4:¬(9223372036854775807<Q.length+2):=(by omega);have hlb:((k:Int) == (b.regions.length:Int) - 1)=true:=by rw [beq_iff_eq];omega
      have hkb:((k:Int) == 0)=false:=by rw [beq_eq_false_iff_ne];omega
      clear hR hQ hP hzl hpl hml hql HTN h0 hla;have hcc:=cQ (l:=(bdM b (some ⟨bb,oo,none⟩) c1 A2 c2 A3 c3 A4 c4 A5 c5 [])) HX.out;obtain ⟨y0,y1,y2,y3,y4,y5,y6⟩:=aS hcc;clear hcc;go_wp2_with fail
      go_roundw
      case rel=>exact ⟨k+1,R,by go_num,by omega,rfl,HTX,HB,HX⟩
      case measure=>simp [intOf];omega
     ·have HTX:Hid (printP b=Q ++ qR1 b (k+1)):=aF (by rw [HTN.out,aZ (Nat.pos_iff_ne_zero.1 h0),aZ hla,<- hQ,<- hP];simp);rw [aZ (Nat.pos_iff_ne_zero.1 h0),aZ hla] at hzl;simp only [bB,bK,bP] at hzl;have hz1:¬(9223372036854775807<bs.length+2):=(by omega);have hz2:¬(9223372036854775807<1+n.length):=(by omega);have hz3:¬(9223372036854775807<P.length+M.length):=(by omega);have hlb:((k:Int) == (b.regions.length:Int) - 1)=false:=by rw [beq_eq_false_iff_ne];omega
      have hkb:((k:Int) == 0)=false:=by rw [beq_eq_false_iff_ne];omega
      clear hQ hP hzl hpl hml hql HTN h0 hla;have hcc:=cQ (l:=(bdM b (some ⟨bb,oo,none⟩) c1 A2 c2 A3 c3 A4 c4 A5 c5 [])) HX.out;obtain ⟨y0,y1,y2,y3,y4,y5,y6⟩:=aS hcc;clear hcc;go_wp2_with fail
      go_roundw
      case rel=>exact ⟨k+1,Q,by go_num,by omega,rfl,HTX,HB,HX⟩
      case measure=>simp [intOf];omega
 case rest=>
 obtain ⟨bs2,rfl,hT1,hB1,hX1⟩:=hcut;have HT2:=aF hT1;have HB2:=aF hB1;have HX2:=aF hX1;clear hT1 hB1 hX1;clear ea eb hz0 hz1 y0 HT0 HB1 HX1;go_upto_block 2 with fail
 go_cut [4,6] (fun s ix wx=>∃bs,s=tx bs/\printP b=bs ++ rR3 b 0/\Below w.heap.size w wx/\wx.heap[w.heap.size]?=some (.cells ((bdM b A1 c1 A2 c2 A3 c3 A4 c4 A5 c5 [])).toArray 28 (0,0)))
 case first=>
  have hcc:=cQ (l:=(bdM b A1 c1 A2 c2 A3 c3 A4 c4 A5 c5 [])) HX2.out;obtain ⟨y0,y1,y2,y3,y4,y5,y6⟩:=aS hcc;clear hcc;go_wp2_with fail
  go_loopw [4,6] (fun s i wr=>∃(k:Nat) (bs:List UInt8),i = .int .i64 k/\k<=b.outl.length/\s=tx bs/\Hid (printP b=bs ++ qR2 b k)/\Hid (Below w.heap.size w wr)/\Hid (wr.heap[w.heap.size]?=some (.cells ((bdM b A1 c1 A2 c2 A3 c3 A4 c4 A5 c5 [])).toArray 28 (0,0)))) (fun _ i _=>b.outl.length - (intOf i).toNat)
  case atStart=>exact ⟨0,bs2,rfl,Nat.zero_le _,rfl,HT2,HB2,HX2⟩
  case round=>
   clear HT2 HB2 HX2;obtain ⟨k,bs,rfl,hk,rfl,HT,HB,HX⟩:=hrel;clear y0 y1 y2 y3 y4 y5 y6;by_cases hlt:k<b.outl.length
   case neg=>
    have HE:=aF (xEA (b:=b) (i:=k) (by omega));have hcc:=cQ (l:=(bdM b A1 c1 A2 c2 A3 c3 A4 c4 A5 c5 [])) HX.out;obtain ⟨y0,y1,y2,y3,y4,y5,y6⟩:=aS hcc;clear hcc;go_wp2_with fail
    go_meet;exact ⟨bs,rfl,by rw [HT.out,HE.out],HB.out,HX.out⟩
   case pos=>
    have HTN:=aF (HT.out.trans (by rw [xAR hlt]));have hox:=HOK.out.out b.outl[k] (bN hlt);obtain ⟨bb,oo,rfl,hbb,y⟩:=(HH.out.out.keep RPr.keeps HB.out).sl.at_ hlt;obtain ⟨⟨v1,v2⟩,hv⟩:∃v,b.outl[k]=v:=⟨_,rfl⟩;rw [hv] at hox HTN y;obtain ⟨o1,o2⟩:=hox;obtain ⟨m1,rfl⟩:=bG o1.1;obtain ⟨m2,rfl⟩:=bG o2.1;have hm1:m1<b.regions.length:=by have:=o1.2;simp only at this;omega
    have hm2:m2<b.regions.length:=by have:=o2.2;simp only at this;omega
    obtain ⟨br,ore,hA1,hbr,z1⟩:=(HH.out.reg.keep RN.keeps HB.out).sl.at_ hm1;obtain ⟨br2,ore2,hA2,hbr2,z2⟩:=(HH.out.reg.keep RN.keeps HB.out).sl.at_ hm2;simp only at hA1 hA2;rw [hA1] at hA2;cases hA2
    subst hA1;obtain ⟨n1,hn1⟩:∃n,bl b.regions[m1]=n:=⟨_,rfl⟩;obtain ⟨n2,hn2⟩:∃n,bl b.regions[m2]=n:=⟨_,rfl⟩;have hr1':rgP b.regions (m1:Int)=n1:=by unfold rgP;rw [bW,bD hm1];exact hn1
    have hr2':rgP b.regions (m2:Int)=n2:=by unfold rgP;rw [bW,bD hm2];exact hn2
    have z1:wr.cell? ⟨br,ore+m1,none⟩=some (tx n1):=by
     unfold RN at z1;rw [Nat.mul_one,gD b.regions[m1],hn1] at z1;exact z1
    have z2:wr.cell? ⟨br,ore+m2,none⟩=some (tx n2):=by
     unfold RN at z2;rw [Nat.mul_one,gD b.regions[m2],hn2] at z2;exact z2
    obtain ⟨x1,x2⟩:=y;have HM:outP b.regions ((m1:Int),(m2:Int))=39 :: (n1 ++ 32 :: 39 :: n2):=by unfold outP;simp only [hr1',hr2'];simp
    rw [HM] at HTN;obtain ⟨M,hM⟩:∃M,(39:UInt8) :: (n1 ++ 32 :: 39 :: n2)=M:=⟨_,rfl⟩;have hml:M.length=n1.length+n2.length+3:=by rw [<- hM];simp only [bB,bK];omega
    have HMM:=aF hM;rw [hM] at HTN;have hzl:=dT HTN.out HZ2.out;have hk1:(k:Int)+1<=9223372036854775807:=(by omega);have hml1:(m1:Int)<b.regions.length:=(by omega);have hml2:(m2:Int)<b.regions.length:=(by omega);have hw0:w.heap.size<wr.heap.size:=(Array.getElem?_eq_some_iff.1 HX.out).1;clear hM HM HT hr1' hr2' hn1 hn2 hv o1 o2 hbr2;simp only at x1 x2;rcases Nat.eq_zero_or_pos k with h0 | h0
    ·obtain ⟨P,hP⟩:∃P,bs ++ [32,32,111,117,116,108,105,118,101,115,32]=P:=⟨_,rfl⟩;have hpl:P.length=bs.length+11:=by rw [<- hP];simp
     have eb:(⟨bs.toArray⟩:ByteArray) ++ ⟨#[32,32,111,117,116,108,105,118,101,115,32]⟩=⟨P.toArray⟩:=by rw [<- hP];exact (ba_app' _ _).trans (by simp [bl])
     obtain ⟨Q,hQ⟩:∃Q,P ++ M=Q:=⟨_,rfl⟩;have hql:Q.length=P.length+M.length:=by rw [<- hQ];simp
     have ec:(⟨P.toArray⟩:ByteArray) ++ ⟨M.toArray⟩=⟨Q.toArray⟩:=by rw [<- hQ];exact (ba_app' _ _).trans (by simp [bl])
     by_cases hla:k+1=b.outl.length
     ·obtain ⟨R,hR⟩:∃R,Q ++ [59,10]=R:=⟨_,rfl⟩;have ed:(⟨Q.toArray⟩:ByteArray) ++ ⟨#[59,10]⟩=⟨R.toArray⟩:=by rw [<- hR];exact (ba_app' _ _).trans (by simp [bl])
      have HTX:Hid (printP b=R ++ qR2 b (k+1)):=aF (by rw [HTN.out,bA h0,bA hla,<- hR,<- hQ,<- hP,semP];simp);rw [bA h0,bA hla] at hzl;simp only [semP,bB,bK,bP] at hzl;have hz1:¬(9223372036854775807<bs.length+11):=(by omega);have hz2:¬(9223372036854775807<1+n1.length):=(by omega);have hz5:¬(9223372036854775807<n1.length+1+2):=(by omega);have hz6:¬(9223372036854775807<n1.length+1+1+1+n2.length):=(by omega);have hz7:¬(9223372036854775807<n1.length+2+1+n2.length):=(by omega);have hz3:¬(9223372036854775807<P.length+M.length):=(by omega);have hz4:¬(9223372036854775807<Q.length+2):=(by omega);have hlb:((k:Int) == (b.outl.length:Int) - 1)=true:=by rw [beq_iff_eq];omega
      have hkb:((k:Int) == 0)=true:=by rw [beq_iff_eq];omega
      clear hR hQ hP hzl hpl hml hql HTN h0 hla;have hcc:=cQ (l:=(bdM b (some ⟨br,ore,none⟩) c1 (some ⟨bb,oo,none⟩) c2 A3 c3 A4 c4 A5 c5 [])) HX.out;obtain ⟨y0,y1,y2,y3,y4,y5,y6⟩:=aS hcc;clear hcc;go_wp2_with fail
      refine cR (S:=fun X=>X.heap[w.heap.size]?=some (.cells ((bdM b (some ⟨br,ore,none⟩) c1 (some ⟨bb,oo,none⟩) c2 A3 c3 A4 c4 A5 c5 [])).toArray 28 (0,0))/\X.cell? ⟨bb,oo+k * 2,none⟩=some (.int .i64 m1)/\X.cell? ⟨bb,oo+k * 2+1,none⟩=some (.int .i64 m2)/\X.cell? ⟨br,ore+m1,none⟩=some (tx n1)/\X.cell? ⟨br,ore+m2,none⟩=some (tx n2)) [0,1,2,3,4,5,6,7,8,9,10,13,14,15,16,17,18,19,20,21,22,11,12,23,24,25] (by kernel_rfl) ?_;have hS:wr.drew.heap[w.heap.size]?=some (.cells ((bdM b (some ⟨br,ore,none⟩) c1 (some ⟨bb,oo,none⟩) c2 A3 c3 A4 c4 A5 c5 [])).toArray 28 (0,0))/\wr.drew.cell? ⟨bb,oo+k * 2,none⟩=some (.int .i64 m1)/\wr.drew.cell? ⟨bb,oo+k * 2+1,none⟩=some (.int .i64 m2)/\wr.drew.cell? ⟨br,ore+m1,none⟩=some (tx n1)/\wr.drew.cell? ⟨br,ore+m2,none⟩=some (tx n2):=⟨HX.out,x1,x2,z1,z2⟩;(iterate 21 (refine cS (v:=?_) ?_ hS ?_;rotate_left;(next=>(rintro X ⟨hX,s1,s2,s3,s4⟩;have t1:=cQ hX 1 _ rfl;have t2:=cQ hX 2 _ rfl;(try simp only [aI]);go_simp;rfl));simp only [aM]));refine cU (v:=tx (39 :: n1)) (by kernel_rfl) (fun _ _ _ h=>h) (Or.inl ⟨by rfl,?_⟩) hS ?_
      ·rintro X hX;(try simp only [aI]);go_simp;exact (ba_app' _ _).trans (by simp [bl])
      (simp only [aM]);refine cU (v:=tx (39 :: (n1 ++ [32,39]))) (by kernel_rfl) (fun _ _ _ h=>h) (Or.inl ⟨by rfl,?_⟩) hS ?_
      ·rintro X hX;(try simp only [aI]);go_simp;exact (ba_app' _ _).trans (by simp [bl])
      (simp only [aM]);refine cU (v:=tx M) (by kernel_rfl) (fun _ _ _ h=>h) (Or.inl ⟨by rfl,?_⟩) hS ?_
      ·rintro X hX;(try simp only [aI]);go_simp;rw [<- HMM.out];exact (ba_app' _ _).trans (by simp [bl])
      (simp only [aM]);refine cU (v:=tx Q) (by kernel_rfl) (fun _ _ _ h=>h) (Or.inl ⟨by rfl,?_⟩) hS ?_
      ·rintro X hX;(try simp only [aI]);(go_simp <;> exact ec)
      (simp only [aM]);((refine cS (v:=?_) ?_ hS ?_;rotate_left;(next=>(rintro X -;(try simp only [aI]);go_simp;rfl));simp only [aM]))
      refine dA ?_;have HBD:=aF HB.out.drew;have HXD:=aF hS.1;clear hS x1 x2 z1 z2 y0 y1 y2 y3 y4 y5 y6;have hcc:=cQ (l:=(bdM b (some ⟨br,ore,none⟩) c1 (some ⟨bb,oo,none⟩) c2 A3 c3 A4 c4 A5 c5 [])) HXD.out;obtain ⟨y0,y1,y2,y3,y4,y5,y6⟩:=aS hcc;clear hcc;go_wp2_with fail
      go_roundw
      case rel=>exact ⟨k+1,R,by go_num,by omega,rfl,HTX,HBD,HXD⟩
      case measure=>simp [intOf];omega
     ·have HTX:Hid (printP b=Q ++ qR2 b (k+1)):=aF (by rw [HTN.out,bA h0,aZ hla,<- hQ,<- hP];simp);rw [bA h0,aZ hla] at hzl;simp only [bB,bK,bP] at hzl;have hz1:¬(9223372036854775807<bs.length+11):=(by omega);have hz2:¬(9223372036854775807<1+n1.length):=(by omega);have hz5:¬(9223372036854775807<n1.length+1+2):=(by omega);have hz6:¬(9223372036854775807<n1.length+1+1+1+n2.length):=(by omega);have hz7:¬(9223372036854775807<n1.length+2+1+n2.length):=(by omega);have hz3:¬(9223372036854775807<P.length+M.length):=(by omega);have hlb:((k:Int) == (b.outl.length:Int) - 1)=false:=by rw [beq_eq_false_iff_ne];omega
      have hkb:((k:Int) == 0)=true:=by rw [beq_iff_eq];omega
      clear hQ hP hzl hpl hml hql HTN h0 hla;have hcc:=cQ (l:=(bdM b (some ⟨br,ore,none⟩) c1 (some ⟨bb,oo,none⟩) c2 A3 c3 A4 c4 A5 c5 [])) HX.out;obtain ⟨y0,y1,y2,y3,y4,y5,y6⟩:=aS hcc;clear hcc;go_wp2_with fail
      refine cR (S:=fun X=>X.heap[w.heap.size]?=some (.cells ((bdM b (some ⟨br,ore,none⟩) c1 (some ⟨bb,oo,none⟩) c2 A3 c3 A4 c4 A5 c5 [])).toArray 28 (0,0))/\X.cell? ⟨bb,oo+k * 2,none⟩=some (.int .i64 m1)/\X.cell? ⟨bb,oo+k * 2+1,none⟩=some (.int .i64 m2)/\X.cell? ⟨br,ore+m1,none⟩=some (tx n1)/\X.cell? ⟨br,ore+m2,none⟩=some (tx n2)) [0,1,2,3,4,5,6,7,8,9,10,13,14,15,16,17,18,19,20,21,22,11,12,23,24,25] (by kernel_rfl) ?_;have hS:wr.drew.heap[w.heap.size]?=some (.cells ((bdM b (some ⟨br,ore,none⟩) c1 (some ⟨bb,oo,none⟩) c2 A3 c3 A4 c4 A5 c5 [])).toArray 28 (0,0))/\wr.drew.cell? ⟨bb,oo+k * 2,none⟩=some (.int .i64 m1)/\wr.drew.cell? ⟨bb,oo+k * 2+1,none⟩=some (.int .i64 m2)/\wr.drew.cell? ⟨br,ore+m1,none⟩=some (tx n1)/\wr.drew.cell? ⟨br,ore+m2,none⟩=some (tx n2):=⟨HX.out,x1,x2,z1,z2⟩;(iterate 21 (refine cS (v:=?_) ?_ hS ?_;rotate_left;(next=>(rintro X ⟨hX,s1,s2,s3,s4⟩;have t1:=cQ hX 1 _ rfl;have t2:=cQ hX 2 _ rfl;(try simp only [aI]);go_simp;rfl));simp only [aM]));refine cU (v:=tx (39 :: n1)) (by kernel_rfl) (fun _ _ _ h=>h) (Or.inl ⟨by rfl,?_⟩) hS ?_
      ·rintro X hX;(try simp only [aI]);go_simp;exact (ba_app' _ _).trans (by simp [bl])
      (simp only [aM]);refine cU (v:=tx (39 :: (n1 ++ [32,39]))) (by kernel_rfl) (fun _ _ _ h=>h) (Or.inl ⟨by rfl,?_⟩) hS ?_
      ·rintro X hX;(try simp only [aI]);go_simp;exact (ba_app' _ _).trans (by simp [bl])
      (simp only [aM]);refine cU (v:=tx M) (by kernel_rfl) (fun _ _ _ h=>h) (Or.inl ⟨by rfl,?_⟩) hS ?_
      ·rintro X hX;(try simp only [aI]);go_simp;rw [<- HMM.out];exact (ba_app' _ _).trans (by simp [bl])
      (simp only [aM]);refine cU (v:=tx Q) (by kernel_rfl) (fun _ _ _ h=>h) (Or.inl ⟨by rfl,?_⟩) hS ?_
      ·rintro X hX;(try simp only [aI]);(go_simp <;> exact ec)
      (simp only [aM]);((refine cS (v:=?_) ?_ hS ?_;rotate_left;(next=>(rintro X -;(try simp only [aI]);go_simp;rfl));simp only [aM]))
      refine dA ?_;have HBD:=aF HB.out.drew;have HXD:=aF hS.1;clear hS x1 x2 z1 z2 y0 y1 y2 y3 y4 y5 y6;have hcc:=cQ (l:=(bdM b (some ⟨br,ore,none⟩) c1 (some ⟨bb,oo,none⟩) c2 A3 c3 A4 c4 A5 c5 [])) HXD.out;obtain ⟨y0,y1,y2,y3,y4,y5,y6⟩:=aS hcc;clear hcc;go_wp2_with fail
      go_roundw
      case rel=>exact ⟨k+1,Q,by go_num,by omega,rfl,HTX,HBD,HXD⟩
      case measure=>simp [intOf];omega
    ·obtain ⟨P,hP⟩:∃P,bs ++ [44,32]=P:=⟨_,rfl⟩;have hpl:P.length=bs.length+2:=by rw [<- hP];simp
     have eb:(⟨bs.toArray⟩:ByteArray) ++ ⟨#[44,32]⟩=⟨P.toArray⟩:=by rw [<- hP];exact (ba_app' _ _).trans (by simp [bl])
     obtain ⟨Q,hQ⟩:∃Q,P ++ M=Q:=⟨_,rfl⟩;have hql:Q.length=P.length+M.length:=by rw [<- hQ];simp
     have ec:(⟨P.toArray⟩:ByteArray) ++ ⟨M.toArray⟩=⟨Q.toArray⟩:=by rw [<- hQ];exact (ba_app' _ _).trans (by simp [bl])
     by_cases hla:k+1=b.outl.length
     ·obtain ⟨R,hR⟩:∃R,Q ++ [59,10]=R:=⟨_,rfl⟩;have ed:(⟨Q.toArray⟩:ByteArray) ++ ⟨#[59,10]⟩=⟨R.toArray⟩:=by rw [<- hR];exact (ba_app' _ _).trans (by simp [bl])
      have HTX:Hid (printP b=R ++ qR2 b (k+1)):=aF (by rw [HTN.out,aZ (Nat.pos_iff_ne_zero.1 h0),bA hla,<- hR,<- hQ,<- hP,semP];simp);rw [aZ (Nat.pos_iff_ne_zero.1 h0),bA hla] at hzl;simp only [semP,bB,bK,bP] at hzl;have hz1:¬(9223372036854775807<bs.length+2):=(by omega);have hz2:¬(9223372036854775807<1+n1.length):=(by omega);have hz5:¬(9223372036854775807<n1.length+1+2):=(by omega);have hz6:¬(9223372036854775807<n1.length+1+1+1+n2.length):=(by omega);have hz7:¬(9223372036854775807<n1.length+2+1+n2.length):=(by omega);have hz3:¬(9223372036854775807<P.length+M.length):=(by omega);have hz4:¬(9223372036854775807<Q.length+2):=(by omega);have hlb:((k:Int) == (b.outl.length:Int) - 1)=true:=by rw [beq_iff_eq];omega
      have hkb:((k:Int) == 0)=false:=by rw [beq_eq_false_iff_ne];omega
      clear hR hQ hP hzl hpl hml hql HTN h0 hla;have hcc:=cQ (l:=(bdM b (some ⟨br,ore,none⟩) c1 (some ⟨bb,oo,none⟩) c2 A3 c3 A4 c4 A5 c5 [])) HX.out;obtain ⟨y0,y1,y2,y3,y4,y5,y6⟩:=aS hcc;clear hcc;go_wp2_with fail
      refine cR (S:=fun X=>X.heap[w.heap.size]?=some (.cells ((bdM b (some ⟨br,ore,none⟩) c1 (some ⟨bb,oo,none⟩) c2 A3 c3 A4 c4 A5 c5 [])).toArray 28 (0,0))/\X.cell? ⟨bb,oo+k * 2,none⟩=some (.int .i64 m1)/\X.cell? ⟨bb,oo+k * 2+1,none⟩=some (.int .i64 m2)/\X.cell? ⟨br,ore+m1,none⟩=some (tx n1)/\X.cell? ⟨br,ore+m2,none⟩=some (tx n2)) [0,1,2,3,4,5,6,7,8,9,10,13,14,15,16,17,18,19,20,21,22,11,12,23,24,25] (by kernel_rfl) ?_;have hS:wr.drew.heap[w.heap.size]?=some (.cells ((bdM b (some ⟨br,ore,none⟩) c1 (some ⟨bb,oo,none⟩) c2 A3 c3 A4 c4 A5 c5 [])).toArray 28 (0,0))/\wr.drew.cell? ⟨bb,oo+k * 2,none⟩=some (.int .i64 m1)/\wr.drew.cell? ⟨bb,oo+k * 2+1,none⟩=some (.int .i64 m2)/\wr.drew.cell? ⟨br,ore+m1,none⟩=some (tx n1)/\wr.drew.cell? ⟨br,ore+m2,none⟩=some (tx n2):=⟨HX.out,x1,x2,z1,z2⟩;(iterate 21 (refine cS (v:=?_) ?_ hS ?_;rotate_left;(next=>(rintro X ⟨hX,s1,s2,s3,s4⟩;have t1:=cQ hX 1 _ rfl;have t2:=cQ hX 2 _ rfl;(try simp only [aI]);go_simp;rfl));simp only [aM]));refine cU (v:=tx (39 :: n1)) (by kernel_rfl) (fun _ _ _ h=>h) (Or.inl ⟨by rfl,?_⟩) hS ?_
      ·rintro X hX;(try simp only [aI]);go_simp;exact (ba_app' _ _).trans (by simp [bl])
      (simp only [aM]);refine cU (v:=tx (39 :: (n1 ++ [32,39]))) (by kernel_rfl) (fun _ _ _ h=>h) (Or.inl ⟨by rfl,?_⟩) hS ?_
      ·rintro X hX;(try simp only [aI]);go_simp;exact (ba_app' _ _).trans (by simp [bl])
      (simp only [aM]);refine cU (v:=tx M) (by kernel_rfl) (fun _ _ _ h=>h) (Or.inl ⟨by rfl,?_⟩) hS ?_
      ·rintro X hX;(try simp only [aI]);go_simp;rw [<- HMM.out];exact (ba_app' _ _).trans (by simp [bl])
      (simp only [aM]);refine cU (v:=tx Q) (by kernel_rfl) (fun _ _ _ h=>h) (Or.inl ⟨by rfl,?_⟩) hS ?_
      ·rintro X hX;(try simp only [aI]);(go_simp <;> exact ec)
      (simp only [aM]);((refine cS (v:=?_) ?_ hS ?_;rotate_left;(next=>(rintro X -;(try simp only [aI]);go_simp;rfl));simp only [aM]))
      refine dA ?_;have HBD:=aF HB.out.drew;have HXD:=aF hS.1;clear hS x1 x2 z1 z2 y0 y1 y2 y3 y4 y5 y6;have hcc:=cQ (l:=(bdM b (some ⟨br,ore,none⟩) c1 (some ⟨bb,oo,none⟩) c2 A3 c3 A4 c4 A5 c5 [])) HXD.out;obtain ⟨y0,y1,y2,y3,y4,y5,y6⟩:=aS hcc;clear hcc;go_wp2_with fail
      go_roundw
      case rel=>exact ⟨k+1,R,by go_num,by omega,rfl,HTX,HBD,HXD⟩
      case measure=>simp [intOf];omega
     ·have HTX:Hid (printP b=Q ++ qR2 b (k+1)):=aF (by rw [HTN.out,aZ (Nat.pos_iff_ne_zero.1 h0),aZ hla,<- hQ,<- hP];simp);rw [aZ (Nat.pos_iff_ne_zero.1 h0),aZ hla] at hzl;simp only [bB,bK,bP] at hzl;have hz1:¬(9223372036854775807<bs.length+2):=(by omega);have hz2:¬(9223372036854775807<1+n1.length):=(by omega);have hz5:¬(9223372036854775807<n1.length+1+2):=(by omega);have hz6:¬(9223372036854775807<n1.length+1+1+1+n2.length):=(by omega);have hz7:¬(9223372036854775807<n1.length+2+1+n2.length):=(by omega);have hz3:¬(9223372036854775807<P.length+M.length):=(by omega);have hlb:((k:Int) == (b.outl.length:Int) - 1)=false:=by rw [beq_eq_false_iff_ne];omega
      have hkb:((k:Int) == 0)=false:=by rw [beq_eq_false_iff_ne];omega
      clear hQ hP hzl hpl hml hql HTN h0 hla;have hcc:=cQ (l:=(bdM b (some ⟨br,ore,none⟩) c1 (some ⟨bb,oo,none⟩) c2 A3 c3 A4 c4 A5 c5 [])) HX.out;obtain ⟨y0,y1,y2,y3,y4,y5,y6⟩:=aS hcc;clear hcc;go_wp2_with fail
      refine cR (S:=fun X=>X.heap[w.heap.size]?=some (.cells ((bdM b (some ⟨br,ore,none⟩) c1 (some ⟨bb,oo,none⟩) c2 A3 c3 A4 c4 A5 c5 [])).toArray 28 (0,0))/\X.cell? ⟨bb,oo+k * 2,none⟩=some (.int .i64 m1)/\X.cell? ⟨bb,oo+k * 2+1,none⟩=some (.int .i64 m2)/\X.cell? ⟨br,ore+m1,none⟩=some (tx n1)/\X.cell? ⟨br,ore+m2,none⟩=some (tx n2)) [0,1,2,3,4,5,6,7,8,9,10,13,14,15,16,17,18,19,20,21,22,11,12,23,24,25] (by kernel_rfl) ?_;have hS:wr.drew.heap[w.heap.size]?=some (.cells ((bdM b (some ⟨br,ore,none⟩) c1 (some ⟨bb,oo,none⟩) c2 A3 c3 A4 c4 A5 c5 [])).toArray 28 (0,0))/\wr.drew.cell? ⟨bb,oo+k * 2,none⟩=some (.int .i64 m1)/\wr.drew.cell? ⟨bb,oo+k * 2+1,none⟩=some (.int .i64 m2)/\wr.drew.cell? ⟨br,ore+m1,none⟩=some (tx n1)/\wr.drew.cell? ⟨br,ore+m2,none⟩=some (tx n2):=⟨HX.out,x1,x2,z1,z2⟩;(iterate 21 (refine cS (v:=?_) ?_ hS ?_;rotate_left;(next=>(rintro X ⟨hX,s1,s2,s3,s4⟩;have t1:=cQ hX 1 _ rfl;have t2:=cQ hX 2 _ rfl;(try simp only [aI]);go_simp;rfl));simp only [aM]));refine cU (v:=tx (39 :: n1)) (by kernel_rfl) (fun _ _ _ h=>h) (Or.inl ⟨by rfl,?_⟩) hS ?_
      ·rintro X hX;(try simp only [aI]);go_simp;exact (ba_app' _ _).trans (by simp [bl])
      (simp only [aM]);refine cU (v:=tx (39 :: (n1 ++ [32,39]))) (by kernel_rfl) (fun _ _ _ h=>h) (Or.inl ⟨by rfl,?_⟩) hS ?_
      ·rintro X hX;(try simp only [aI]);go_simp;exact (ba_app' _ _).trans (by simp [bl])
      (simp only [aM]);refine cU (v:=tx M) (by kernel_rfl) (fun _ _ _ h=>h) (Or.inl ⟨by rfl,?_⟩) hS ?_
      ·rintro X hX;(try simp only [aI]);go_simp;rw [<- HMM.out];exact (ba_app' _ _).trans (by simp [bl])
      (simp only [aM]);refine cU (v:=tx Q) (by kernel_rfl) (fun _ _ _ h=>h) (Or.inl ⟨by rfl,?_⟩) hS ?_
      ·rintro X hX;(try simp only [aI]);(go_simp <;> exact ec)
      (simp only [aM]);((refine cS (v:=?_) ?_ hS ?_;rotate_left;(next=>(rintro X -;(try simp only [aI]);go_simp;rfl));simp only [aM]))
      refine dA ?_;have HBD:=aF HB.out.drew;have HXD:=aF hS.1;clear hS x1 x2 z1 z2 y0 y1 y2 y3 y4 y5 y6;have hcc:=cQ (l:=(bdM b (some ⟨br,ore,none⟩) c1 (some ⟨bb,oo,none⟩) c2 A3 c3 A4 c4 A5 c5 [])) HXD.out;obtain ⟨y0,y1,y2,y3,y4,y5,y6⟩:=aS hcc;clear hcc;go_wp2_with fail
      go_roundw
      case rel=>exact ⟨k+1,Q,by go_num,by omega,rfl,HTX,HBD,HXD⟩
      case measure=>simp [intOf];omega
 case rest=>
 obtain ⟨bs3,rfl,hT1,hB1,hX1⟩:=hcut;have HT3:=aF hT1;have HB3:=aF hB1;have HX3:=aF hX1;clear hT1 hB1 hX1;clear HT2 HB2 HX2;go_upto_block 4 with fail
 go_cut [4,7] (fun s ix wx=>∃bs,s=tx bs/\printP b=bs ++ rR4 b 0/\Below w.heap.size w wx/\wx.heap[w.heap.size]?=some (.cells ((bdM b A1 c1 A2 c2 A3 c3 A4 c4 A5 c5 [])).toArray 28 (0,0)))
 case first=>
  have hcc:=cQ (l:=(bdM b A1 c1 A2 c2 A3 c3 A4 c4 A5 c5 [])) HX3.out;obtain ⟨y0,y1,y2,y3,y4,y5,y6⟩:=aS hcc;clear hcc;go_wp2_with fail
  go_loopw [4,7] (fun s i wr=>∃(k:Nat) (bs:List UInt8),i = .int .i64 k/\k<=b.types.length/\s=tx bs/\Hid (printP b=bs ++ rR3 b k)/\Hid (Below w.heap.size w wr)/\Hid (wr.heap[w.heap.size]?=some (.cells ((bdM b A1 c1 A2 c2 A3 c3 A4 c4 A5 c5 [])).toArray 28 (0,0)))) (fun _ i _=>b.types.length - (intOf i).toNat)
  case atStart=>exact ⟨0,bs3,rfl,Nat.zero_le _,rfl,HT3,HB3,HX3⟩
  case round=>
   clear HT3 HB3 HX3;obtain ⟨k,bs,rfl,hk,rfl,HT,HB,HX⟩:=hrel;clear y0 y1 y2 y3 y4 y5 y6;by_cases hlt:k<b.types.length
   case neg=>
    have HE:=aF (wO (b:=b) (i:=k) (by omega));have hcc:=cQ (l:=(bdM b A1 c1 A2 c2 A3 c3 A4 c4 A5 c5 [])) HX.out;obtain ⟨y0,y1,y2,y3,y4,y5,y6⟩:=aS hcc;clear hcc;go_wp2_with fail
    go_meet;exact ⟨bs,rfl,by rw [HT.out,HE.out],HB.out,HX.out⟩
   case pos=>
    obtain ⟨bb,oo,rfl,hbb,y⟩:=(HH.out.typ.keep RTy.keeps HB.out).sl.at_ hlt;have HTN:=aF (HT.out.trans (by rw [sA hlt]));have HOT:=aF (HOK.out.ty _ (bN hlt));have HFT:=aF (HF.out.ty _ (bN hlt));obtain ⟨t,ht⟩:∃t,b.types[k]=t:=⟨_,rfl⟩;rw [ht] at HTN HOT HFT y;clear ht HT;obtain ⟨g1,g2,g3,g4,FA,fc,g5,hfl,hfm,hfs⟩:=y;have HSF:Hid (Slc 1 RInt wr FA fc t.flds):=aF ⟨hfs,hfl,hfm⟩;clear hfs;obtain ⟨T1,hT1⟩:∃T1,typeP b.regions t=T1:=⟨_,rfl⟩;obtain ⟨ix,hix⟩:∃ix,Lib.itoa (k:Int)=ix:=⟨_,rfl⟩;have HTX:Hid (printP b=(bs ++ (32 :: 32 :: 116 :: 121 :: 112 :: 101 :: 32 :: 35 :: (ix ++ 32 :: 61 :: 32 :: (T1 ++ [59,10])))) ++ rR3 b (k+1)):=aF (by rw [HTN.out,kO,hT1,idxP,hix,semP];simp);have hzl:=dT HTX.out HZ2.out;simp only [bB,bK,bP] at hzl;have HIX:=aF (fun W=>fX (k:Int) (by omega) (by omega) W);have HTC:=aF (fun W (hb:Below wr.heap.size wr W)=>HTY.out t HOT.out HFT.out (by rw [hT1];show T1.length<=_;omega) W (HB.out.trans (hb.mono HB.out.size)) FA fc (HSF.out.keep RInt.keeps hb));rw [hix] at HIX;rw [hT1] at HTC;have hk1:(k:Int)+1<=9223372036854775807:=(by omega);have hz1:¬(9223372036854775807<8+ix.length):=(by omega);have hz2:¬(9223372036854775807<ix.length+1+1+1+1+1+1+1+1+3):=(by omega);have hz3:¬(9223372036854775807<ix.length+3+1+1+1+1+1+1+1+1+T1.length):=(by omega);have hz4:¬(9223372036854775807<ix.length+(T1.length+1+1+1)+1+1+1+1+1+1+1+1+2):=(by omega);have hz5:¬(9223372036854775807<bs.length+(ix.length+(T1.length+2+1+1+1)+1+1+1+1+1+1+1+1)):=(by omega);clear hzl hT1 hix HTN HOT HFT HSF hfl hfm;obtain ⟨tk,tm,tr,te,tf⟩:=t;simp only at g1 g2 g3 g4 g5 HTC;have hw0:w.heap.size<wr.heap.size:=(Array.getElem?_eq_some_iff.1 HX.out).1;have hcc:=cQ (l:=(bdM b A1 c1 A2 c2 (some ⟨bb,oo,none⟩) c3 A4 c4 A5 c5 [])) HX.out;obtain ⟨y0,y1,y2,y3,y4,y5,y6⟩:=aS hcc;clear hcc;go_wp2_with fail
    refine cR (S:=fun X=>X.heap[w.heap.size]?=some (.cells ((bdM b A1 c1 A2 c2 (some ⟨bb,oo,none⟩) c3 A4 c4 A5 c5 [])).toArray 28 (0,0))/\X.cell? ⟨bb,oo+k * 5,none⟩=some (.int .i64 tk)/\X.cell? ⟨bb,oo+k * 5+1,none⟩=some (.bool tm)/\X.cell? ⟨bb,oo+k * 5+2,none⟩=some (.int .i64 tr)/\X.cell? ⟨bb,oo+k * 5+3,none⟩=some (.int .i64 te)/\X.cell? ⟨bb,oo+k * 5+4,none⟩=some (.slice FA tf.length fc)) [0,1,5,6,7,8,9,10,2,3,4,11,12,13,14,15] (by kernel_rfl) ?_;have hS:wr.drew.heap[w.heap.size]?=some (.cells ((bdM b A1 c1 A2 c2 (some ⟨bb,oo,none⟩) c3 A4 c4 A5 c5 [])).toArray 28 (0,0))/\wr.drew.cell? ⟨bb,oo+k * 5,none⟩=some (.int .i64 tk)/\wr.drew.cell? ⟨bb,oo+k * 5+1,none⟩=some (.bool tm)/\wr.drew.cell? ⟨bb,oo+k * 5+2,none⟩=some (.int .i64 tr)/\wr.drew.cell? ⟨bb,oo+k * 5+3,none⟩=some (.int .i64 te)/\wr.drew.cell? ⟨bb,oo+k * 5+4,none⟩=some (.slice FA tf.length fc):=⟨HX.out,g1,g2,g3,g4,g5⟩;have HBD:=aF (aX wr.heap.size wr).drew;clear g1 g2 g3 g4 g5 y0 y1 y2 y3 y4 y5 y6;(iterate 8 (refine cS (v:=?_) ?_ hS ?_;rotate_left;(next=>(rintro X ⟨hX,g1,g2,g3,g4,g5⟩;have hY:=cQ hX;obtain ⟨t0,t1,t2,t3,t4,t5,t6⟩:=aS hY;(try simp only [aI]);go_simp;rfl));simp only [aM]));(refine cV (fun K1 hK1=>?_);simp only [aM];rw [bA (by rfl)];go_simp);refine (HIX.out _).mono ?_;rintro e' w3 ⟨rfl,hw3⟩;replace hS:=bJ (cP hS.1 hw3) (bJ (cN hw3 hS.2.1) (bJ (cN hw3 hS.2.2.1) (bJ (cN hw3 hS.2.2.2.1) (bJ (cN hw3 hS.2.2.2.2.1) (cN hw3 hS.2.2.2.2.2)))));have HB3':=aF ((HBD.out).trans (hw3.mono (HBD.out).size));clear hw3;refine hK1.out _ _ (fun _=>hS) ?_;refine cU (v:=tx (32 :: 32 :: 116 :: 121 :: 112 :: 101 :: 32 :: 35 :: ix)) (by kernel_rfl) (fun _ _ _ h=>h) (Or.inl ⟨by rfl,?_⟩) hS ?_
    ·rintro X hX;(try simp only [aI]);go_simp;exact (ba_app' _ _).trans (by simp [bl])
    (simp only [aM]);refine cU (v:=tx (32 :: 32 :: 116 :: 121 :: 112 :: 101 :: 32 :: 35 :: (ix ++ [32,61,32]))) (by kernel_rfl) (fun _ _ _ h=>h) (Or.inl ⟨by rfl,?_⟩) hS ?_
    ·rintro X hX;(try simp only [aI]);go_simp;exact (ba_app' _ _).trans (by simp [bl])
    (simp only [aM]);(refine cV (fun K1 hK1=>?_);simp only [aM];rw [bA (by rfl)];go_simp);refine (HTC.out _ HB3'.out).mono ?_;rintro e' w4 ⟨rfl,hw4⟩;replace hS:=bJ (cP hS.1 hw4) (bJ (cN hw4 hS.2.1) (bJ (cN hw4 hS.2.2.1) (bJ (cN hw4 hS.2.2.2.1) (bJ (cN hw4 hS.2.2.2.2.1) (cN hw4 hS.2.2.2.2.2)))));have HB4':=aF ((HB3'.out).trans (hw4.mono (HB3'.out).size));clear hw4;refine hK1.out _ _ (fun _=>hS) ?_;refine cU (v:=tx (32 :: 32 :: 116 :: 121 :: 112 :: 101 :: 32 :: 35 :: (ix ++ 32 :: 61 :: 32 :: T1))) (by kernel_rfl) (fun _ _ _ h=>h) (Or.inl ⟨by rfl,?_⟩) hS ?_
    ·rintro X hX;(try simp only [aI]);go_simp;exact (ba_app' _ _).trans (by simp [bl])
    (simp only [aM]);refine cU (v:=tx (32 :: 32 :: 116 :: 121 :: 112 :: 101 :: 32 :: 35 :: (ix ++ 32 :: 61 :: 32 :: (T1 ++ [59,10])))) (by kernel_rfl) (fun _ _ _ h=>h) (Or.inl ⟨by rfl,?_⟩) hS ?_
    ·rintro X hX;(try simp only [aI]);go_simp;exact (ba_app' _ _).trans (by simp [bl])
    (simp only [aM]);refine cU (v:=tx (bs ++ (32 :: 32 :: 116 :: 121 :: 112 :: 101 :: 32 :: 35 :: (ix ++ 32 :: 61 :: 32 :: (T1 ++ [59,10]))))) (by kernel_rfl) (fun _ _ _ h=>h) (Or.inl ⟨by rfl,?_⟩) hS ?_
    ·rintro X hX;(try simp only [aI]);go_simp;exact (ba_app' _ _).trans (by simp [bl])
    (simp only [aM]);((refine cS (v:=?_) ?_ hS ?_;rotate_left;(next=>(rintro X -;(try simp only [aI]);go_simp;rfl));simp only [aM]))
    refine dA ?_;have HXN:=aF hS.1;clear hS;go_wp2_with fail
    go_roundw
    case rel=>exact ⟨k+1,_,by go_num,by omega,rfl,HTX,aF (HB.out.trans (HB4'.out.mono HB.out.size)),HXN⟩
    case measure=>simp [intOf];omega
 case rest=>
 obtain ⟨bs4,rfl,hT1,hB1,hX1⟩:=hcut;have HT4:=aF hT1;have HB4:=aF hB1;have HX4:=aF hX1;clear hT1 hB1 hX1;clear HT3 HB3 HX3;go_upto_block 6 with fail
 go_cut [4,8,9] (fun s ix wo wx=>∃bs,s=tx bs/\printP b=bs ++ rR5 b 0/\Below w.heap.size w wx/\wx.heap[w.heap.size]?=some (.cells ((bdM b A1 c1 A2 c2 A3 c3 A4 c4 A5 c5 [])).toArray 28 (0,0)))
 case first=>
  have hcc:=cQ (l:=(bdM b A1 c1 A2 c2 A3 c3 A4 c4 A5 c5 [])) HX4.out;obtain ⟨y0,y1,y2,y3,y4,y5,y6⟩:=aS hcc;clear hcc;go_wp2_with fail
  go_loopw [4,8,9] (fun s i q wr=>∃(k:Nat) (bs:List UInt8),i = .int .i64 k/\k<=b.locals.length/\s=tx bs/\q=q/\Hid (printP b=bs ++ rR4 b k)/\Hid (Below w.heap.size w wr)/\Hid (wr.heap[w.heap.size]?=some (.cells ((bdM b A1 c1 A2 c2 A3 c3 A4 c4 A5 c5 [])).toArray 28 (0,0)))) (fun _ i _ _=>b.locals.length - (intOf i).toNat)
  case atStart=>exact ⟨0,bs4,rfl,Nat.zero_le _,rfl,rfl,HT4,HB4,HX4⟩
  case round=>
   clear HT4 HB4 HX4;obtain ⟨k,bs,rfl,hk,rfl,_,HT,HB,HX⟩:=hrel;clear y0 y1 y2 y3 y4 y5 y6;by_cases hlt:k<b.locals.length
   case neg=>
    have HE:=aF (wN (b:=b) (i:=k) (by omega));have hcc:=cQ (l:=(bdM b A1 c1 A2 c2 A3 c3 A4 c4 A5 c5 [])) HX.out;obtain ⟨y0,y1,y2,y3,y4,y5,y6⟩:=aS hcc;clear hcc;go_wp2_with fail
    go_meet;exact ⟨bs,rfl,by rw [HT.out,HE.out],HB.out,HX.out⟩
   case pos=>
    obtain ⟨bb,oo,rfl,hbb,y⟩:=(HH.out.loc.keep RLc.keeps HB.out).sl.at_ hlt;have HTN:=aF (HT.out.trans (by rw [rZ hlt]));have HFT:=aF (HF.out.lc _ (bN hlt));obtain ⟨t,ht⟩:∃t,b.locals[k]=t:=⟨_,rfl⟩;rw [ht] at HTN HFT y;clear ht HT;obtain ⟨ln,lt⟩:=t;obtain ⟨g1,g2⟩:=y;simp only at g1 g2 HFT;obtain ⟨nm,hnm⟩:∃nm:List UInt8,bl ln=nm:=⟨_,rfl⟩;have hln:ln=⟨nm.toArray⟩:=(by rw [<- hnm]);obtain ⟨ix,hix⟩:∃ix,Lib.itoa lt=ix:=⟨_,rfl⟩;obtain ⟨wd,hwd⟩:∃wd,wordP (decide ((k:Int)<b.args))=wd:=⟨_,rfl⟩;have hwl:wd.length=3:=by rw [<- hwd];cases decide ((k:Int)<b.args) <;> rfl
    have HTX:Hid (printP b=(bs ++ (32 :: 32 :: (wd ++ 32 :: 37 :: (nm ++ 58 :: 32 :: 35 :: (ix ++ [59,10]))))) ++ rR4 b (k+1)):=aF (by rw [HTN.out,lN];simp only;rw [hnm,idxP,hix,hwd,semP];simp);have hzl:=dT HTX.out HZ2.out;simp only [bB,bK,bP] at hzl;have HIX:=aF (fun W=>fX lt HFT.out.1 HFT.out.2 W);rw [hix] at HIX;have hk1:(k:Int)+1<=9223372036854775807:=(by omega);have hz1:¬(9223372036854775807<7+nm.length):=(by omega);have hz2:¬(9223372036854775807<nm.length+1+1+1+1+1+1+1+3):=(by omega);have hz3:¬(9223372036854775807<nm.length+3+1+1+1+1+1+1+1+ix.length):=(by omega);have hz4:¬(9223372036854775807<nm.length+(ix.length+1+1+1)+1+1+1+1+1+1+1+2):=(by omega);have hz5:¬(9223372036854775807<bs.length+(nm.length+(ix.length+2+1+1+1)+1+1+1+1+1+1+1)):=by omega
    have HWD:Hid (((k:Int)<b.args/\wd=[97,114,103])\/(¬(k:Int)<b.args/\wd=[108,101,116])):=aF (by
     rw [<- hwd];by_cases h:(k:Int)<b.args
     ·exact .inl ⟨h,by rw [decide_eq_true h];rfl⟩
     ·exact .inr ⟨h,by rw [decide_eq_false h];rfl⟩)
    subst hln;clear hzl hix HTN HFT hnm hwd hwl;have hw0:w.heap.size<wr.heap.size:=(Array.getElem?_eq_some_iff.1 HX.out).1;have hcc:=cQ (l:=(bdM b A1 c1 A2 c2 A3 c3 (some ⟨bb,oo,none⟩) c4 A5 c5 [])) HX.out;obtain ⟨y0,y1,y2,y3,y4,y5,y6⟩:=aS hcc;clear hcc;rcases HWD.out with ⟨hka,hwv⟩ | ⟨hka,hwv⟩
    ·subst hwv;clear HWD;go_wp2_with fail
     refine cR (S:=fun X=>X.heap[w.heap.size]?=some (.cells ((bdM b A1 c1 A2 c2 A3 c3 (some ⟨bb,oo,none⟩) c4 A5 c5 [])).toArray 28 (0,0))/\X.cell? ⟨bb,oo+k * 2,none⟩=some (tx nm)/\X.cell? ⟨bb,oo+k * 2+1,none⟩=some (.int .i64 lt)) [0,1,2,3,4,5,6,7,10,11,12,13,14,15,8,9,16,17,18,19,20] (by kernel_rfl) ?_;have hS:wr.drew.heap[w.heap.size]?=some (.cells ((bdM b A1 c1 A2 c2 A3 c3 (some ⟨bb,oo,none⟩) c4 A5 c5 [])).toArray 28 (0,0))/\wr.drew.cell? ⟨bb,oo+k * 2,none⟩=some (tx nm)/\wr.drew.cell? ⟨bb,oo+k * 2+1,none⟩=some (.int .i64 lt):=⟨HX.out,g1,g2⟩;have HBD:=aF (aX wr.heap.size wr).drew;clear g1 g2 y0 y1 y2 y3 y4 y5 y6;(iterate 14 (refine cS (v:=?_) ?_ hS ?_;rotate_left;(next=>(rintro X ⟨hX,g1,g2⟩;have t4:=cQ hX 4 _ rfl;(try simp only [aI]);go_simp;rfl));simp only [aM]));refine cU (v:=tx (32 :: 32 :: 97 :: 114 :: 103 :: 32 :: 37 :: nm)) (by kernel_rfl) (fun _ _ _ h=>h) (Or.inl ⟨by rfl,?_⟩) hS ?_
     ·rintro X hX;(try simp only [aI]);go_simp;exact (ba_app' _ _).trans (by simp [bl])
     (simp only [aM]);refine cU (v:=tx (32 :: 32 :: 97 :: 114 :: 103 :: 32 :: 37 :: (nm ++ [58,32,35]))) (by kernel_rfl) (fun _ _ _ h=>h) (Or.inl ⟨by rfl,?_⟩) hS ?_
     ·rintro X hX;(try simp only [aI]);go_simp;exact (ba_app' _ _).trans (by simp [bl])
     (simp only [aM]);(refine cV (fun K1 hK1=>?_);simp only [aM];rw [bA (by rfl)];go_simp);refine (HIX.out _).mono ?_;rintro e' w3 ⟨rfl,hw3⟩;replace hS:=bJ (cP hS.1 hw3) (bJ (cN hw3 hS.2.1) (cN hw3 hS.2.2));have HB3':=aF ((HBD.out).trans (hw3.mono (HBD.out).size));clear hw3;refine hK1.out _ _ (fun _=>hS) ?_;refine cU (v:=tx (32 :: 32 :: 97 :: 114 :: 103 :: 32 :: 37 :: (nm ++ 58 :: 32 :: 35 :: ix))) (by kernel_rfl) (fun _ _ _ h=>h) (Or.inl ⟨by rfl,?_⟩) hS ?_
     ·rintro X hX;(try simp only [aI]);go_simp;exact (ba_app' _ _).trans (by simp [bl])
     (simp only [aM]);refine cU (v:=tx (32 :: 32 :: 97 :: 114 :: 103 :: 32 :: 37 :: (nm ++ 58 :: 32 :: 35 :: (ix ++ [59,10])))) (by kernel_rfl) (fun _ _ _ h=>h) (Or.inl ⟨by rfl,?_⟩) hS ?_
     ·rintro X hX;(try simp only [aI]);go_simp;exact (ba_app' _ _).trans (by simp [bl])
     (simp only [aM]);refine cU (v:=tx (bs ++ (32 :: 32 :: 97 :: 114 :: 103 :: 32 :: 37 :: (nm ++ 58 :: 32 :: 35 :: (ix ++ [59,10]))))) (by kernel_rfl) (fun _ _ _ h=>h) (Or.inl ⟨by rfl,?_⟩) hS ?_
     ·rintro X hX;(try simp only [aI]);go_simp;exact (ba_app' _ _).trans (by simp [bl])
     (simp only [aM]);((refine cS (v:=?_) ?_ hS ?_;rotate_left;(next=>(rintro X -;(try simp only [aI]);go_simp;rfl));simp only [aM]))
     refine dA ?_;have HXN:=aF hS.1;clear hS;go_wp2_with fail
     go_roundw
     case rel=>exact ⟨k+1,_,by go_num,by omega,rfl,trivial,HTX,aF (HB.out.trans (HB3'.out.mono HB.out.size)),HXN⟩
     case measure=>simp [intOf];omega
    ·subst hwv;clear HWD;go_wp2_with fail
     refine cR (S:=fun X=>X.heap[w.heap.size]?=some (.cells ((bdM b A1 c1 A2 c2 A3 c3 (some ⟨bb,oo,none⟩) c4 A5 c5 [])).toArray 28 (0,0))/\X.cell? ⟨bb,oo+k * 2,none⟩=some (tx nm)/\X.cell? ⟨bb,oo+k * 2+1,none⟩=some (.int .i64 lt)) [0,1,2,3,4,5,6,7,10,11,12,13,14,15,8,9,16,17,18,19,20] (by kernel_rfl) ?_;have hS:wr.drew.heap[w.heap.size]?=some (.cells ((bdM b A1 c1 A2 c2 A3 c3 (some ⟨bb,oo,none⟩) c4 A5 c5 [])).toArray 28 (0,0))/\wr.drew.cell? ⟨bb,oo+k * 2,none⟩=some (tx nm)/\wr.drew.cell? ⟨bb,oo+k * 2+1,none⟩=some (.int .i64 lt):=⟨HX.out,g1,g2⟩;have HBD:=aF (aX wr.heap.size wr).drew;clear g1 g2 y0 y1 y2 y3 y4 y5 y6;(iterate 14 (refine cS (v:=?_) ?_ hS ?_;rotate_left;(next=>(rintro X ⟨hX,g1,g2⟩;have t4:=cQ hX 4 _ rfl;(try simp only [aI]);go_simp;rfl));simp only [aM]));refine cU (v:=tx (32 :: 32 :: 108 :: 101 :: 116 :: 32 :: 37 :: nm)) (by kernel_rfl) (fun _ _ _ h=>h) (Or.inl ⟨by rfl,?_⟩) hS ?_
     ·rintro X hX;(try simp only [aI]);go_simp;exact (ba_app' _ _).trans (by simp [bl])
     (simp only [aM]);refine cU (v:=tx (32 :: 32 :: 108 :: 101 :: 116 :: 32 :: 37 :: (nm ++ [58,32,35]))) (by kernel_rfl) (fun _ _ _ h=>h) (Or.inl ⟨by rfl,?_⟩) hS ?_
     ·rintro X hX;(try simp only [aI]);go_simp;exact (ba_app' _ _).trans (by simp [bl])
     (simp only [aM]);(refine cV (fun K1 hK1=>?_);simp only [aM];rw [bA (by rfl)];go_simp);refine (HIX.out _).mono ?_;rintro e' w3 ⟨rfl,hw3⟩;replace hS:=bJ (cP hS.1 hw3) (bJ (cN hw3 hS.2.1) (cN hw3 hS.2.2));have HB3':=aF ((HBD.out).trans (hw3.mono (HBD.out).size));clear hw3;refine hK1.out _ _ (fun _=>hS) ?_;refine cU (v:=tx (32 :: 32 :: 108 :: 101 :: 116 :: 32 :: 37 :: (nm ++ 58 :: 32 :: 35 :: ix))) (by kernel_rfl) (fun _ _ _ h=>h) (Or.inl ⟨by rfl,?_⟩) hS ?_
     ·rintro X hX;(try simp only [aI]);go_simp;exact (ba_app' _ _).trans (by simp [bl])
     (simp only [aM]);refine cU (v:=tx (32 :: 32 :: 108 :: 101 :: 116 :: 32 :: 37 :: (nm ++ 58 :: 32 :: 35 :: (ix ++ [59,10])))) (by kernel_rfl) (fun _ _ _ h=>h) (Or.inl ⟨by rfl,?_⟩) hS ?_
     ·rintro X hX;(try simp only [aI]);go_simp;exact (ba_app' _ _).trans (by simp [bl])
     (simp only [aM]);refine cU (v:=tx (bs ++ (32 :: 32 :: 108 :: 101 :: 116 :: 32 :: 37 :: (nm ++ 58 :: 32 :: 35 :: (ix ++ [59,10]))))) (by kernel_rfl) (fun _ _ _ h=>h) (Or.inl ⟨by rfl,?_⟩) hS ?_
     ·rintro X hX;(try simp only [aI]);go_simp;exact (ba_app' _ _).trans (by simp [bl])
     (simp only [aM]);((refine cS (v:=?_) ?_ hS ?_;rotate_left;(next=>(rintro X -;(try simp only [aI]);go_simp;rfl));simp only [aM]))
     refine dA ?_;have HXN:=aF hS.1;clear hS;go_wp2_with fail
     go_roundw
     case rel=>exact ⟨k+1,_,by go_num,by omega,rfl,trivial,HTX,aF (HB.out.trans (HB3'.out.mono HB.out.size)),HXN⟩
     case measure=>simp [intOf];omega
 case rest=>
 obtain ⟨bs5,rfl,hT1,hB1,hX1⟩:=hcut;have HT5:=aF hT1;have HB5:=aF hB1;have HX5:=aF hX1;clear hT1 hB1 hX1;clear HT4 HB4 HX4;go_upto_block 8 with fail
 go_cut [4,10,11] (fun s ix jx wx=>∃bs,s=tx bs/\printP b=bs ++ rR6/\Below w.heap.size w wx/\wx.heap[w.heap.size]?=some (.cells ((bdM b A1 c1 A2 c2 A3 c3 A4 c4 A5 c5 [])).toArray 28 (0,0)))
 case first=>
  have hcc:=cQ (l:=(bdM b A1 c1 A2 c2 A3 c3 A4 c4 A5 c5 [])) HX5.out;obtain ⟨y0,y1,y2,y3,y4,y5,y6⟩:=aS hcc;clear hcc;go_wp2_with fail
  go_loopw [4,10,11] (fun s i q wr=>∃(k:Nat) (bs:List UInt8),i = .int .i64 k/\k<=b.blocks.length/\s=tx bs/\q=q/\Hid (printP b=bs ++ rR5 b k)/\Hid (Below w.heap.size w wr)/\Hid (wr.heap[w.heap.size]?=some (.cells ((bdM b A1 c1 A2 c2 A3 c3 A4 c4 A5 c5 [])).toArray 28 (0,0)))) (fun _ i _ _=>b.blocks.length - (intOf i).toNat)
  case atStart=>exact ⟨0,bs5,rfl,Nat.zero_le _,rfl,rfl,HT5,HB5,HX5⟩
  case round=>
   clear HT5 HB5 HX5;obtain ⟨k,bs,rfl,hk,rfl,_,HT,HB,HX⟩:=hrel;clear y0 y1 y2 y3 y4 y5 y6;by_cases hlt:k<b.blocks.length
   case neg=>
    have HE:=aF (wM (b:=b) (i:=k) (by omega));have hcc:=cQ (l:=(bdM b A1 c1 A2 c2 A3 c3 A4 c4 A5 c5 [])) HX.out;obtain ⟨y0,y1,y2,y3,y4,y5,y6⟩:=aS hcc;clear hcc;go_wp2_with fail
    go_meet;exact ⟨bs,rfl,by rw [HT.out,HE.out],HB.out,HX.out⟩
   case pos=>
    obtain ⟨bb,oo,rfl,hbb,y⟩:=(HH.out.blk.keep RBk.keeps HB.out).sl.at_ hlt;have HTN:=aF (HT.out.trans (by rw [rY hlt]));have HFS:=aF (HF.out.st _ (bN hlt));have HFM:=aF (HF.out.tm _ (bN hlt));have HBK:=aF (ybk (ybks (ychk HCK.out).2 _ (bN hlt)));obtain ⟨x,hx⟩:∃x,b.blocks[k]=x:=⟨_,rfl⟩;rw [hx] at HTN HFS HFM HBK y;clear hx HT;obtain ⟨V,hV⟩:∃V:World,V=wr:=⟨_,rfl⟩;subst hV;obtain ⟨⟨S1,sc1,h0,q1,q2,q3⟩,h1,⟨S2,sc2,h2,r1,r2,r3⟩,⟨S3,sc3,h3,p1,p2,p3⟩,⟨h4,S4,sc4,h5,o1,o2,o3⟩,h6⟩:=y;obtain ⟨ss,⟨tk,tg,ta,⟨tl,tp⟩,tn⟩⟩:=x;simp only at h0 h1 h2 h3 h4 h5 h6 q1 q3 r1 r3 p1 p3 o1 o3 HFS HFM HBK;have HQ1:Hid (Slc 11 RSt V S1 sc1 ss):=aF ⟨q3,q1,q2⟩;have HQ2:Hid (Slc 1 RInt V S2 sc2 tg):=aF ⟨r3,r1,r2⟩;have HQ3:Hid (Slc 4 ROp V S3 sc3 ta):=aF ⟨p3,p1,p2⟩;have HQ4:Hid (Slc 2 RPj V S4 sc4 tp):=aF ⟨o3,o1,o2⟩;clear q3 r1 r2 r3 p1 p2 p3 o1 o2 o3;have HSE:=aF (fun s hs=>lF HDK.out.okay (ysts HBK.out.1 s hs));have HTE:=aF (lE HBK.out.2);obtain ⟨ix,hix⟩:∃ix,Lib.itoa (k:Int)=ix:=⟨_,rfl⟩
    have HTX:Hid (printP b=(bs ++ (32 :: 32 :: 94 :: (ix ++ [58,32,123,10]))) ++ (ss.flatMap (dR b.locals b.regions) ++ (([32,32,32,32] ++ termP b.locals ⟨tk,tg,ta,⟨tl,tp⟩,tn⟩ ++ semP) ++ ([32,32,125,10] ++ rR5 b (k+1))))):=aF (by
     rw [HTN.out,kE,idxP,hix];simp)
    have hzl:=dT HTX.out HZ2.out;simp only [bB,bK,bP] at hzl;have HIX:=aF (fun W=>fX (k:Int) (by omega) (by omega) W);rw [hix] at HIX;obtain ⟨P1,hP1⟩:∃P,(32:UInt8) :: 32 :: 94 :: ix=P:=⟨_,rfl⟩;obtain ⟨P2,hP2⟩:∃P,P1 ++ [58,32,123,10]=P:=⟨_,rfl⟩;obtain ⟨P3,hP3⟩:∃P,bs ++ P2=P:=⟨_,rfl⟩;have hl1':P1.length=ix.length+3:=by rw [<- hP1];simp
    have hl2':P2.length=P1.length+4:=by rw [<- hP2];simp
    have HTX2:Hid (printP b=P3 ++ (ss.flatMap (dR b.locals b.regions) ++ (([32,32,32,32] ++ termP b.locals ⟨tk,tg,ta,⟨tl,tp⟩,tn⟩ ++ semP) ++ ([32,32,125,10] ++ rR5 b (k+1))))):=aF (by rw [HTX.out,<- hP3,<- hP2,<- hP1];simp);have ea:(⟨#[32,32,94]⟩:ByteArray) ++ ⟨ix.toArray⟩=⟨P1.toArray⟩:=by rw [<- hP1];exact (ba_app' _ _).trans (by simp [bl])
    have eb:(⟨P1.toArray⟩:ByteArray) ++ ⟨#[58,32,123,10]⟩=⟨P2.toArray⟩:=by rw [<- hP2];exact (ba_app' _ _).trans (by simp [bl])
    have ec:(⟨bs.toArray⟩:ByteArray) ++ ⟨P2.toArray⟩=⟨P3.toArray⟩:=by rw [<- hP3];exact (ba_app' _ _).trans (by simp [bl])
    have hz1:¬(9223372036854775807<3+ix.length):=(by omega);have hz2:¬(9223372036854775807<P1.length+4):=(by omega);have hz3:¬(9223372036854775807<bs.length+P2.length):=(by omega);clear hzl hix HTN HBK HTX hP1 hP2 hP3 hl1' hl2';have G0:=aF h0;have G1:=aF h1;have G2:=aF h2;have G3:=aF h3;have G4:=aF h4;have G5:=aF h5;have G6:=aF h6;have HSL:Hid (ss.length<=9223372036854775807):=aF (by omega);clear q1 q2 h0 h1 h2 h3 h4 h5 h6;have hcc:=cQ (l:=(bdM b A1 c1 A2 c2 A3 c3 A4 c4 (some ⟨bb,oo,none⟩) c5 [])) HX.out;obtain ⟨y0,y1,y2,y3,y4,y5,y6⟩:=aS hcc;clear hcc;go_upto_block 10 with (go_at_call 39;refine (HIX.out _).mono ?_;rintro e' w3 ⟨rfl,hw3⟩;have HB3:=aF (HB.out.trans (hw3.mono HB.out.size));have HX3:=aF (cP HX.out hw3);have HW3:=aF hw3;clear hw3)
    clear ea eb ec hz1 hz2 hz3 HX y0 y1 y2 y3 y4 y5 y6;go_cut [4,11] (fun s jx wx=>∃bs,s=tx bs/\printP b=bs ++ (([32,32,32,32] ++ termP b.locals ⟨tk,tg,ta,⟨tl,tp⟩,tn⟩ ++ semP) ++ ([32,32,125,10] ++ rR5 b (k+1)))/\Below V.heap.size V wx/\wx.heap[w.heap.size]?=some (.cells ((bdM b A1 c1 A2 c2 A3 c3 A4 c4 (some ⟨bb,oo,none⟩) c5 [])).toArray 28 (0,0)))
    case first=>
     have g0:=cN HW3.out G0.out;have hcc:=cQ (l:=(bdM b A1 c1 A2 c2 A3 c3 A4 c4 (some ⟨bb,oo,none⟩) c5 [])) HX3.out;obtain ⟨y0,y1,y2,y3,y4,y5,y6⟩:=aS hcc;clear hcc;go_wp2_with fail
     go_loopw [4,11] (fun s i wv=>∃(j:Nat) (bs:List UInt8),i = .int .i64 j/\j<=ss.length/\s=tx bs/\Hid (printP b=bs ++ ((ss.drop j).flatMap (dR b.locals b.regions) ++ (([32,32,32,32] ++ termP b.locals ⟨tk,tg,ta,⟨tl,tp⟩,tn⟩ ++ semP) ++ ([32,32,125,10] ++ rR5 b (k+1)))))/\Hid (Below V.heap.size V wv)/\Hid (wv.heap[w.heap.size]?=some (.cells ((bdM b A1 c1 A2 c2 A3 c3 A4 c4 (some ⟨bb,oo,none⟩) c5 [])).toArray 28 (0,0)))) (fun _ i _=>ss.length - (intOf i).toNat)
     case atStart=>exact ⟨0,P3,rfl,Nat.zero_le _,rfl,aF (by rw [bX];exact HTX2.out),HW3,HX3⟩
     case round=>
      clear g0 y0 y1 y2 y3 y4 y5 y6 HTX2 HW3 HX3 HB3;obtain ⟨j,bs,rfl,hj,rfl,HT,HWR,HX⟩:=hrel;have HB:=aF (HB.out.trans (HWR.out.mono HB.out.size));have g0:=cN HWR.out G0.out;by_cases hjl:j<ss.length
      case neg=>
       have HD:Hid (ss.drop j=[]):=aF (bE (by omega));have hcc:=cQ (l:=(bdM b A1 c1 A2 c2 A3 c3 A4 c4 (some ⟨bb,oo,none⟩) c5 [])) HX.out;obtain ⟨y0,y1,y2,y3,y4,y5,y6⟩:=aS hcc;clear hcc;go_wp2_with fail
       go_meet;exact ⟨bs,rfl,by rw [HT.out,HD.out];rfl,HWR.out,HX.out⟩
      case pos=>
       obtain ⟨b2,o2,rfl,hb2,y⟩:=(HQ1.out.keep RSt.keeps HWR.out).sl.at_ hjl;have HOS:=aF (HSE.out ss[j] (bN hjl));have HFT:=aF (HFS.out ss[j] (bN hjl));have HTN:Hid (printP b=(bs ++ dR b.locals b.regions ss[j]) ++ ((ss.drop (j+1)).flatMap (dR b.locals b.regions) ++ (([32,32,32,32] ++ termP b.locals ⟨tk,tg,ta,⟨tl,tp⟩,tn⟩ ++ semP) ++ ([32,32,125,10] ++ rR5 b (k+1))))):=aF (by rw [HT.out,cY hjl,List.flatMap_cons];simp);obtain ⟨s,hs⟩:∃s,ss[j]=s:=⟨_,rfl⟩;rw [hs] at HOS HFT HTN y;clear hs HT;obtain ⟨X1,xc1,X2,xc2,X3,xc3,f0,f1,f2,f3,f4,f5,f6,f7,f8,f9,f10,p1,p2,p3⟩:=kR y;have HP1:=aF p1;have HP2:=aF p2;have HP3:=aF p3;clear y p1 p2 p3;obtain ⟨F,hF⟩:∃F,stmtP b.locals b.regions s=F:=⟨_,rfl⟩;have HTX:Hid (printP b=(bs ++ (32 :: 32 :: 32 :: 32 :: (F ++ [59,10]))) ++ ((ss.drop (j+1)).flatMap (dR b.locals b.regions) ++ (([32,32,32,32] ++ termP b.locals ⟨tk,tg,ta,⟨tl,tp⟩,tn⟩ ++ semP) ++ ([32,32,125,10] ++ rR5 b (k+1))))):=aF (by rw [HTN.out,dR,hF,semP];simp);have hzl:=dT HTX.out HZ2.out;simp only [bB,bK,bP] at hzl;have HSC:=aF (fun W (hb:Below wr.heap.size wr W)=>HSM.out s HOS.out HFT.out (by rw [hF];show F.length<=_;omega) W (HB.out.trans (hb.mono HB.out.size)) X1 X2 X3 xc1 xc2 xc3 (HP1.out.keep RPj.keeps hb) (HP2.out.keep RPj.keeps hb) (HP3.out.keep ROp.keeps hb));rw [hF] at HSC;have hj1:(j:Int)+1<=9223372036854775807:=by have:=HSL.out;omega
       have hz1:¬(9223372036854775807<4+F.length):=(by omega);have hz2:¬(9223372036854775807<F.length+1+1+1+1+2):=(by omega);have hz3:¬(9223372036854775807<bs.length+(F.length+2+1+1+1+1)):=(by omega);clear hzl hF HTN HOS HFT HP1 HP2 HP3;obtain ⟨vk,⟨pl,pp⟩,⟨rk,ro,rr,rm,⟨ql,qp⟩,ra⟩,lo⟩:=s;simp only at f0 f1 f2 f3 f4 f5 f6 f7 f8 f9 f10 HSC;have hbs2:=dB hb2;have hbb1:bb<wr.heap.size:=cE wr _ g0;have hbs1:=dB hbb1;have hw0:w.heap.size<wr.heap.size:=(Array.getElem?_eq_some_iff.1 HX.out).1;have hcc:=cQ (l:=(bdM b A1 c1 A2 c2 A3 c3 A4 c4 (some ⟨bb,oo,none⟩) c5 [])) HX.out;obtain ⟨y0,y1,y2,y3,y4,y5,y6⟩:=aS hcc;clear hcc;go_wp2_with fail
       refine cR (S:=fun X=>X.heap[w.heap.size]?=some (.cells ((bdM b A1 c1 A2 c2 A3 c3 A4 c4 (some ⟨bb,oo,none⟩) c5 [])).toArray 28 (0,0))/\X.cell? ⟨bb,oo+k * 7,none⟩=some (.slice (some ⟨b2,o2,none⟩) ss.length sc1)/\X.cell? ⟨b2,o2+j * 11,none⟩=some (.int .i64 vk)/\X.cell? ⟨b2,o2+j * 11+1,none⟩=some (.int .i64 pl)/\X.cell? ⟨b2,o2+j * 11+2,none⟩=some (.slice X1 pp.length xc1)/\X.cell? ⟨b2,o2+j * 11+3,none⟩=some (.int .i64 rk)/\X.cell? ⟨b2,o2+j * 11+4,none⟩=some (.int .i64 ro)/\X.cell? ⟨b2,o2+j * 11+5,none⟩=some (.int .i64 rr)/\X.cell? ⟨b2,o2+j * 11+6,none⟩=some (.bool rm)/\X.cell? ⟨b2,o2+j * 11+7,none⟩=some (.int .i64 ql)/\X.cell? ⟨b2,o2+j * 11+8,none⟩=some (.slice X2 qp.length xc2)/\X.cell? ⟨b2,o2+j * 11+9,none⟩=some (.slice X3 ra.length xc3)/\X.cell? ⟨b2,o2+j * 11+10,none⟩=some (.int .i64 lo)) [0,1,2,3,4,5,6,7,8,9,10,11,12,13,14,15] (by kernel_rfl) ?_;have hS:wr.drew.heap[w.heap.size]?=some (.cells ((bdM b A1 c1 A2 c2 A3 c3 A4 c4 (some ⟨bb,oo,none⟩) c5 [])).toArray 28 (0,0))/\wr.drew.cell? ⟨bb,oo+k * 7,none⟩=some (.slice (some ⟨b2,o2,none⟩) ss.length sc1)/\wr.drew.cell? ⟨b2,o2+j * 11,none⟩=some (.int .i64 vk)/\wr.drew.cell? ⟨b2,o2+j * 11+1,none⟩=some (.int .i64 pl)/\wr.drew.cell? ⟨b2,o2+j * 11+2,none⟩=some (.slice X1 pp.length xc1)/\wr.drew.cell? ⟨b2,o2+j * 11+3,none⟩=some (.int .i64 rk)/\wr.drew.cell? ⟨b2,o2+j * 11+4,none⟩=some (.int .i64 ro)/\wr.drew.cell? ⟨b2,o2+j * 11+5,none⟩=some (.int .i64 rr)/\wr.drew.cell? ⟨b2,o2+j * 11+6,none⟩=some (.bool rm)/\wr.drew.cell? ⟨b2,o2+j * 11+7,none⟩=some (.int .i64 ql)/\wr.drew.cell? ⟨b2,o2+j * 11+8,none⟩=some (.slice X2 qp.length xc2)/\wr.drew.cell? ⟨b2,o2+j * 11+9,none⟩=some (.slice X3 ra.length xc3)/\wr.drew.cell? ⟨b2,o2+j * 11+10,none⟩=some (.int .i64 lo):=⟨HX.out,g0,f0,f1,f2,f3,f4,f5,f6,f7,f8,f9,f10⟩;have HBD:=aF (aX wr.heap.size wr).drew;clear g0 f0 f1 f2 f3 f4 f5 f6 f7 f8 f9 f10 y0 y1 y2 y3 y4 y5 y6;(iterate 11 (refine cS (v:=?_) ?_ hS ?_;rotate_left;(next=>(rintro X ⟨hX,g0,f0,f1,f2,f3,f4,f5,f6,f7,f8,f9,f10⟩;have hY:=cQ hX;obtain ⟨t0,t1,t2,t3,t4,t5,t6⟩:=aS hY;(try simp only [aI]);go_simp;rfl));simp only [aM]));(refine cV (fun K1 hK1=>?_);simp only [aM];rw [bA (by rfl)];go_simp);refine (HSC.out _ HBD.out).mono ?_;rintro e' w4 ⟨rfl,hw4⟩;replace hS:=bJ (cP hS.1 hw4) (bJ (cN hw4 hS.2.1) (bJ (cN hw4 hS.2.2.1) (bJ (cN hw4 hS.2.2.2.1) (bJ (cN hw4 hS.2.2.2.2.1) (bJ (cN hw4 hS.2.2.2.2.2.1) (bJ (cN hw4 hS.2.2.2.2.2.2.1) (bJ (cN hw4 hS.2.2.2.2.2.2.2.1) (bJ (cN hw4 hS.2.2.2.2.2.2.2.2.1) (bJ (cN hw4 hS.2.2.2.2.2.2.2.2.2.1) (bJ (cN hw4 hS.2.2.2.2.2.2.2.2.2.2.1) (bJ (cN hw4 hS.2.2.2.2.2.2.2.2.2.2.2.1) (cN hw4 hS.2.2.2.2.2.2.2.2.2.2.2.2))))))))))));have HB4:=aF (HBD.out.trans (hw4.mono HBD.out.size));clear hw4;refine hK1.out _ _ (fun _=>hS) ?_;refine cU (v:=tx (32 :: 32 :: 32 :: 32 :: F)) (by kernel_rfl) (fun _ _ _ h=>h) (Or.inl ⟨by rfl,?_⟩) hS ?_
       ·rintro X hX;(try simp only [aI]);go_simp;exact (ba_app' _ _).trans (by simp [bl])
       (simp only [aM]);refine cU (v:=tx (32 :: 32 :: 32 :: 32 :: (F ++ [59,10]))) (by kernel_rfl) (fun _ _ _ h=>h) (Or.inl ⟨by rfl,?_⟩) hS ?_
       ·rintro X hX;(try simp only [aI]);go_simp;exact (ba_app' _ _).trans (by simp [bl])
       (simp only [aM]);refine cU (v:=tx (bs ++ (32 :: 32 :: 32 :: 32 :: (F ++ [59,10])))) (by kernel_rfl) (fun _ _ _ h=>h) (Or.inl ⟨by rfl,?_⟩) hS ?_
       ·rintro X hX;(try simp only [aI]);go_simp;exact (ba_app' _ _).trans (by simp [bl])
       (simp only [aM]);((refine cS (v:=?_) ?_ hS ?_;rotate_left;(next=>(rintro X -;(try simp only [aI]);go_simp;rfl));simp only [aM]))
       refine dA ?_;have HXN:=aF hS.1;clear hS;go_wp2_with fail
       go_roundw
       case rel=>exact ⟨j+1,_,by go_num,by omega,rfl,HTX,aF (HWR.out.trans (HB4.out.mono HWR.out.size)),HXN⟩
       case measure=>simp [intOf];omega
    case rest=>
    obtain ⟨bs6,rfl,hT1,hB1,hX1⟩:=hcut;have HT6:=aF hT1;have HB6:=aF hB1;have HX6:=aF hX1;clear hT1 hB1 hX1 HTX2 HX3 HB3;obtain ⟨F,hF⟩:∃F,termP b.locals ⟨tk,tg,ta,⟨tl,tp⟩,tn⟩=F:=⟨_,rfl⟩;have HTX:Hid (printP b=(bs6 ++ (32 :: 32 :: 32 :: 32 :: (F ++ [59,10,32,32,125,10]))) ++ rR5 b (k+1)):=aF (by rw [HT6.out,hF,semP];simp);have hzl:=dT HTX.out HZ2.out;simp only [bB,bK,bP] at hzl;have HTC:=aF (fun W (hb:Below V.heap.size V W)=>HTM.out ⟨tk,tg,ta,⟨tl,tp⟩,tn⟩ HTE.out HFM.out (by rw [hF];show F.length<=_;omega) W (HB.out.trans (hb.mono HB.out.size)) S2 S4 S3 sc2 sc4 sc3 (HQ2.out.keep RInt.keeps hb) (HQ3.out.keep ROp.keeps hb) (HQ4.out.keep RPj.keeps hb));rw [hF] at HTC;simp only at HTC;have hz1:¬(9223372036854775807<4+F.length):=(by omega);have hz2:¬(9223372036854775807<F.length+1+1+1+1+6):=(by omega);have hz3:¬(9223372036854775807<bs6.length+(F.length+6+1+1+1+1)):=(by omega);clear hzl hF HT6;have g0:=cN HB6.out G0.out;have g1:=cN HB6.out G1.out;have g2:=cN HB6.out G2.out;have g3:=cN HB6.out G3.out;have g4:=cN HB6.out G4.out;have g5:=cN HB6.out G5.out;have g6:=cN HB6.out G6.out;have hbb1:bb<wc.heap.size:=cE wc _ g0;have hbs1:=dB hbb1;have hw0:w.heap.size<wc.heap.size:=(Array.getElem?_eq_some_iff.1 HX6.out).1;have hcc:=cQ (l:=(bdM b A1 c1 A2 c2 A3 c3 A4 c4 (some ⟨bb,oo,none⟩) c5 [])) HX6.out;obtain ⟨y0,y1,y2,y3,y4,y5,y6⟩:=aS hcc;clear hcc;go_wp2_with fail
    refine cR (S:=fun X=>X.heap[w.heap.size]?=some (.cells ((bdM b A1 c1 A2 c2 A3 c3 A4 c4 (some ⟨bb,oo,none⟩) c5 [])).toArray 28 (0,0))/\X.cell? ⟨bb,oo+k * 7,none⟩=some (.slice S1 ss.length sc1)/\X.cell? ⟨bb,oo+k * 7+1,none⟩=some (.int .i64 tk)/\X.cell? ⟨bb,oo+k * 7+2,none⟩=some (.slice S2 tg.length sc2)/\X.cell? ⟨bb,oo+k * 7+3,none⟩=some (.slice S3 ta.length sc3)/\X.cell? ⟨bb,oo+k * 7+4,none⟩=some (.int .i64 tl)/\X.cell? ⟨bb,oo+k * 7+5,none⟩=some (.slice S4 tp.length sc4)/\X.cell? ⟨bb,oo+k * 7+6,none⟩=some (.string tn)) [0,1,2,3,4,5,6,7,8,9,10,11,12] (by kernel_rfl) ?_;have hS:wc.drew.heap[w.heap.size]?=some (.cells ((bdM b A1 c1 A2 c2 A3 c3 A4 c4 (some ⟨bb,oo,none⟩) c5 [])).toArray 28 (0,0))/\wc.drew.cell? ⟨bb,oo+k * 7,none⟩=some (.slice S1 ss.length sc1)/\wc.drew.cell? ⟨bb,oo+k * 7+1,none⟩=some (.int .i64 tk)/\wc.drew.cell? ⟨bb,oo+k * 7+2,none⟩=some (.slice S2 tg.length sc2)/\wc.drew.cell? ⟨bb,oo+k * 7+3,none⟩=some (.slice S3 ta.length sc3)/\wc.drew.cell? ⟨bb,oo+k * 7+4,none⟩=some (.int .i64 tl)/\wc.drew.cell? ⟨bb,oo+k * 7+5,none⟩=some (.slice S4 tp.length sc4)/\wc.drew.cell? ⟨bb,oo+k * 7+6,none⟩=some (.string tn):=⟨HX6.out,g0,g1,g2,g3,g4,g5,g6⟩;have HBD:=aF (HB6.out.drew);clear g0 g1 g2 g3 g4 g5 g6 y0 y1 y2 y3 y4 y5 y6;(iterate 8 (refine cS (v:=?_) ?_ hS ?_;rotate_left;(next=>(rintro X ⟨hX,g0,g1,g2,g3,g4,g5,g6⟩;have hY:=cQ hX;obtain ⟨t0,t1,t2,t3,t4,t5,t6⟩:=aS hY;(try simp only [aI]);go_simp;rfl));simp only [aM]));(refine cV (fun K1 hK1=>?_);simp only [aM];rw [bA (by rfl)];go_simp);refine (HTC.out _ HBD.out).mono ?_;rintro e' w5 ⟨rfl,hw5⟩;replace hS:=bJ (cP hS.1 hw5) (bJ (cN hw5 hS.2.1) (bJ (cN hw5 hS.2.2.1) (bJ (cN hw5 hS.2.2.2.1) (bJ (cN hw5 hS.2.2.2.2.1) (bJ (cN hw5 hS.2.2.2.2.2.1) (bJ (cN hw5 hS.2.2.2.2.2.2.1) (cN hw5 hS.2.2.2.2.2.2.2)))))));have HB7:=aF (HBD.out.trans (hw5.mono HBD.out.size));clear hw5;refine hK1.out _ _ (fun _=>hS) ?_;refine cU (v:=tx (32 :: 32 :: 32 :: 32 :: F)) (by kernel_rfl) (fun _ _ _ h=>h) (Or.inl ⟨by rfl,?_⟩) hS ?_
    ·rintro X hX;(try simp only [aI]);go_simp;exact (ba_app' _ _).trans (by simp [bl])
    (simp only [aM]);refine cU (v:=tx (32 :: 32 :: 32 :: 32 :: (F ++ [59,10,32,32,125,10]))) (by kernel_rfl) (fun _ _ _ h=>h) (Or.inl ⟨by rfl,?_⟩) hS ?_
    ·rintro X hX;(try simp only [aI]);go_simp;exact (ba_app' _ _).trans (by simp [bl])
    (simp only [aM]);refine cU (v:=tx (bs6 ++ (32 :: 32 :: 32 :: 32 :: (F ++ [59,10,32,32,125,10])))) (by kernel_rfl) (fun _ _ _ h=>h) (Or.inl ⟨by rfl,?_⟩) hS ?_
    ·rintro X hX;(try simp only [aI]);go_simp;exact (ba_app' _ _).trans (by simp [bl])
    (simp only [aM]);((refine cS (v:=?_) ?_ hS ?_;rotate_left;(next=>(rintro X -;(try simp only [aI]);go_simp;rfl));simp only [aM]))
    refine dA ?_;have HXN:=aF hS.1;clear hS;have hk1:(k:Int)+1<=9223372036854775807:=(by omega);go_wp2_with fail
    go_roundw
    case rel=>exact ⟨k+1,_,by go_num,by omega,rfl,trivial,HTX,aF (HB.out.trans (HB7.out.mono HB.out.size)),HXN⟩
    case measure=>simp [intOf];omega
 case rest=>
 obtain ⟨bs6,rfl,hT1,hB1,hX1⟩:=hcut;have HT6:=aF hT1;have HB6:=aF hB1;have HX6:=aF hX1;clear hT1 hB1 hX1;clear HT5 HB5 HX5;have hzl:=dT HT6.out HZ2.out;have HTZ:Hid (printP b=bs6 ++ [125,10]):=aF HT6.out
 have hz1:¬(9223372036854775807<bs6.length+2):=by
  have:rR6.length=2:=rfl;omega
 have ea:(⟨bs6.toArray⟩:ByteArray) ++ ⟨#[125,10]⟩=⟨(bs6 ++ [125,10]).toArray⟩:=(ba_app' _ _).trans (by simp [bl]);clear hzl;go_wp2_with fail
 refine bodyPost_ret (v:= .tuple #[tx (bs6 ++ [125,10]),.int .i64 0]) (by simp [results,Tryz.results11,go_sem] <;> rfl) rfl ⟨by rw [HTZ.out],HB6.out⟩
end
end Go.Proofs.YtmknfbfppmkcfaaGreatDoor
