/-
  Parts of the proof: V40 V41 A5 Y50 V68 V69 V72.
-/
import Derived.Test.YtmknfbfppmkcfaaGreatDoorPI0
import Derived.Test.YtmknfbfppmkcfaaGreatDoorPI14
import Derived.Test.YtmknfbfppmkcfaaGreatDoorPI13
import Derived.Test.YtmknfbfppmkcfaaGreatDoorPI5
import Derived.Test.YtmknfbfppmkcfaaGreatDoorPI3
import Derived.Test.YtmknfbfppmkcfaaGreatDoorPI15
import Derived.Test.YtmknfbfppmkcfaaGreatDoorPI4
import Derived.Deep.LoopGhost
import Derived.RangeFuncBox
namespace Go.Proofs.YtmknfbfppmkcfaaGreatDoor
set_option maxRecDepth 100000
set_option maxHeartbeats 16000000
section
open Go Go.RowKit Go.Maps
theorem iO {k b:Nat} (hk:k≠b):∀(vs:List Value) (o:Nat) (w:World),(w.setCells b o vs).heap[k]?=w.heap[k]?
 | [],_,_=>rfl
 | v :: vs,o,w=>(iO hk vs (o+1) _).trans (bH w ⟨b,o,none⟩ v k hk)
theorem iD (b:Nat):∀(vs:List Value) (o:Nat) (w:World),(w.setCells b o vs).heap.size=w.heap.size
 | [],_,_=>rfl
 | v :: vs,o,w=>(iD b vs (o+1) _).trans (by simp)
theorem xCK (b:Bdy) (bh:BH) (w:World) (H:BdAt w b bh) (hok:DeclOk b):
 Calls Tryz.prog 70 #[.agg (bdC b bh).toArray] w fun e' w'=>∃r,e' = .returned (.agg (ckC b bh r).toArray)/\Ck w' b bh r/\Below w.heap.size w w':=by
 have HN:=aF (fun (W:World) (hb:Below w.heap.size w W)=>xFW b.outl b.regions.length bh.A2 bh.c2 W (H.keep hb).out hok.outl (by have:=hok.nreg;omega));have HH:=aF H;have HO:=aF hok;clear H hok;unfold bdC ckC;go_enter Tryz.func70,Tryz.ntmps70
 go_wp2_with (go_at_call 114;refine (HN.out _ (bel2 _ _ _)).mono ?_;rintro e' w1 ⟨r0,M0,c0,F0,ba0,rfl,hrel,hr0,hM0,hb1⟩;have HB:=aF ((bel2 _ _ _).trans (hb1.mono (bel2 _ _ _).size));have HREL:=aF hrel;obtain ⟨y,z⟩:=cT hb1;obtain ⟨y0,y1,y2,y3,y4,y5,y6⟩:=aS y;have h8:w1.heap[w.heap.size+1]?=some (.cells #[.string ⟨#[]⟩,.slice none 0 0,.slice none 0 0,.slice none 0 0,.slice none 0 0,.int .i64 0,.slice none 0 0,.pointer none] 122):=(hb1.block _ (by simp)).trans (by rw [uG _ _ _ (by simp)]);have f8:∀i,w1.frozen? ⟨w.heap.size+1,i,none⟩=false:=(fun i=>(by unfold World.frozen?;simp only [h8];simp));obtain ⟨z0,z1,z2,z3,z4,z5,z6,z7⟩:=aT z;have H8:=aF h8;simp only [bI] at hr0 hM0;clear h8 y z hb1 hrel)
 generalize hW2:((((((((w1.setCell ⟨w.heap.size+1,0,none⟩ (Value.string b.name)).setCell ⟨w.heap.size+1,1,none⟩ (Value.slice bh.A1 b.regions.length bh.c1)).setCell ⟨w.heap.size+1,2,none⟩ (Value.slice bh.A2 b.outl.length bh.c2)).setCell ⟨w.heap.size+1,3,none⟩ (Value.slice bh.A3 b.types.length bh.c3)).setCell ⟨w.heap.size+1,4,none⟩ (Value.slice bh.A4 b.locals.length bh.c4)).setCell ⟨w.heap.size+1,5,none⟩ (Value.int IntKind.i64 b.args)).setCell ⟨w.heap.size+1,6,none⟩ (Value.slice bh.A5 b.blocks.length bh.c5)).setCell ⟨w.heap.size+1,7,none⟩ (Value.pointer (some ⟨r0,0,none⟩)))=W2;have hW:w1.setCells (w.heap.size+1) 0 (ckC b bh r0)=W2:=hW2
 have hth:w1.there (w.heap.size+1) 0 8:=fun j hj=>⟨by
  rw [Nat.zero_add];match j,hj with
  | 0,_=>rw [z0];rfl
  | 1,_=>rw [z1];rfl
  | 2,_=>rw [z2];rfl
  | 3,_=>rw [z3];rfl
  | 4,_=>rw [z4];rfl
  | 5,_=>rw [z5];rfl
  | 6,_=>rw [z6];rfl
  | 7,_=>rw [z7];rfl,f8 _⟩
 have hcl:=World.rangeAt_setCells_same w1 (w.heap.size+1) 0 (ckC b bh r0) hth;have hbo:∀k,k≠w.heap.size+1->W2.heap[k]?=w1.heap[k]?:=fun k hk=>by rw [<- hW];exact iO hk _ _ _
 have hsz:W2.heap.size=w1.heap.size:=by rw [<- hW];exact iD _ _ _ _
 have hGI:=HREL.out.but (lo:=w.heap.size+2) hr0 hM0 (w':=W2) (fun k h1 _=>hbo k (by omega)) (by omega);have hBL:Below w.heap.size w W2:=by rw [<- hW];exact dN (Nat.le_succ _) _ _ _ HB.out
 rw [hW] at hcl;have v0:=hcl 0 _ rfl;have v1:=hcl 1 _ rfl;have v2:=hcl 2 _ rfl;have v3:=hcl 3 _ rfl;have v4:=hcl 4 _ rfl;have v5:=hcl 5 _ rfl;have v6:=hcl 6 _ rfl;have v7:=hcl 7 _ rfl;simp only [Nat.zero_add] at v0 v1 v2 v3 v4 v5 v6 v7;have HCK:=aF (show Ck W2 b bh r0 from ⟨HH.out.keep hBL,HO.out,hGI.rel3⟩);have HBL:=aF hBL;clear hGI hbo hcl hth hW hW2 hsz hBL HREL HH HO f8 z0 z1 z2 z3 z4 z5 z6 z7;exact bodyPost_ret (v:= .agg (ckC b bh r0).toArray) (by simp [results,Tryz.results70,go_sem,v0,v1,v2,v3,v4,v5,v6,v7];rfl) rfl ⟨r0,rfl,HCK.out,HBL.out⟩
theorem hH {w:World} {b o:Nat} {x:Blk} (h:RBk w w.heap.size b o x):∃A1 c1 A2 c2 A3 c3 A4 c4,w.cell? ⟨b,o,none⟩=some (.slice A1 x.stmts.length c1)/\w.cell? ⟨b,o+1,none⟩=some (.int .i64 x.term.kind)/\w.cell? ⟨b,o+2,none⟩=some (.slice A2 x.term.targets.length c2)/\w.cell? ⟨b,o+3,none⟩=some (.slice A3 x.term.args.length c3)/\w.cell? ⟨b,o+4,none⟩=some (.int .i64 x.term.place.loc)/\w.cell? ⟨b,o+5,none⟩=some (.slice A4 x.term.place.proj.length c4)/\w.cell? ⟨b,o+6,none⟩=some (.string x.term.name)/\
 Slc 11 RSt w A1 c1 x.stmts/\Slc 1 RInt w A2 c2 x.term.targets/\Slc 4 ROp w A3 c3 x.term.args/\Slc 2 RPj w A4 c4 x.term.place.proj:=by
 obtain ⟨⟨A1,c1,h1,h2,h3,h4⟩,t0,⟨A2,c2,t1,t2,t3,t4⟩,⟨A3,c3,s1,s2,s3,s4⟩,⟨p0,A4,c4,p1,p2,p3,p4⟩,t5⟩:=h;exact ⟨A1,c1,A2,c2,A3,c3,A4,c4,h1,t0,t1,s1,p0,p1,t5,⟨h4,h2,h3⟩,⟨t4,t2,t3⟩,⟨s4,s2,s3⟩,⟨p4,p2,p3⟩⟩
theorem iV {w:World} {b o:Nat} {s:Stm} (h:RSt w w.heap.size b o s):∃A0 c0 A c B d,w.cell? ⟨b,o,none⟩=some (.int .i64 s.kind)/\w.cell? ⟨b,o+1,none⟩=some (.int .i64 s.place.loc)/\w.cell? ⟨b,o+2,none⟩=some (.slice A0 s.place.proj.length c0)/\w.cell? ⟨b,o+3,none⟩=some (.int .i64 s.rv.kind)/\w.cell? ⟨b,o+4,none⟩=some (.int .i64 s.rv.op)/\w.cell? ⟨b,o+5,none⟩=some (.int .i64 s.rv.reg)/\w.cell? ⟨b,o+6,none⟩=some (.bool s.rv.mu)/\w.cell? ⟨b,o+7,none⟩=some (.int .i64 s.rv.place.loc)/\w.cell? ⟨b,o+8,none⟩=some (.slice A s.rv.place.proj.length c)/\w.cell? ⟨b,o+9,none⟩=some (.slice B s.rv.args.length d)/\w.cell? ⟨b,o+10,none⟩=some (.int .i64 s.loc)/\
 Slc 2 RPj w A0 c0 s.place.proj/\Slc 2 RPj w A c s.rv.place.proj/\Slc 4 ROp w B d s.rv.args:=by
 obtain ⟨k0,⟨p0,A0,c0,p1,p2,p3,p4⟩,⟨v0,v1,v2,v3,⟨q0,A,c,q1,q2,q3,q4⟩,⟨B,d,a1,a2,a3,a4⟩⟩,l0⟩:=h;exact ⟨A0,c0,A,c,B,d,k0,p0,p1,v0,v1,v2,v3,q0,q1,a1,l0,⟨p4,p2,p3⟩,⟨q4,q2,q3⟩,⟨a4,a2,a3⟩⟩
def bkL (x:Blk) (A1:Option Addr) (c1:Nat) (A2:Option Addr) (c2:Nat) (A3:Option Addr) (c3:Nat) (A4:Option Addr) (c4:Nat):List Value:=[.slice A1 x.stmts.length c1,.int .i64 x.term.kind,.slice A2 x.term.targets.length c2,.slice A3 x.term.args.length c3,.int .i64 x.term.place.loc,.slice A4 x.term.place.proj.length c4,.string x.term.name]
theorem mO (b:Bdy) (bh:BH) (w:World) (H:BdAt w b bh) (hT:TabsOk w):
 Calls Tryz.prog 27 #[.agg (bdC b bh).toArray] w fun e' w'=>e' = .returned (.int .i64 (chkB b))/\Below w.heap.size w w':=by
 have HD:=aF (fun (W:World) (hb:Below w.heap.size w W)=>xCV b bh W (H.keep hb));have HN:=aF (fun (W:World) (hb:Below w.heap.size w W) (h:declC b=0)=>xCK b bh W (H.keep hb) (dS h));have HH:=aF H;have HT:=aF hT;have hbl:=H.blk.le;have hbg:=H.blk.big;obtain ⟨R,hR⟩:∃R,chkB b=R:=⟨_,rfl⟩;rw [hR];have HR:Hid (R=if declC b=0 then bksE b b.blocks else declC b):=aF hR.symm;have HOK:=aF (fun h=>dS (b:=b) h);clear hR H hT;unfold bdC at *;by_cases hd:declC b=0
 case neg=>
  have HF:Hid (R=declC b):=aF (by rw [HR.out,aZ hd]);generalize declC b=de at HD HF hd;have e1:(de != 0)=true:=by simp [hd]
  clear HR HN HOK hd;go_enter Tryz.func27,Tryz.ntmps27
  go_wp2_with fail
  go_step3
  go_wp2_with (go_at_call 69;refine (HD.out _ ((aX _ _).alloc (aY _) _)).mono ?_;rintro e' w1 ⟨rfl,hb1⟩;have HB:=aF (((aX _ _).alloc (aY _) _).trans (hb1.mono ((aX _ _).alloc (aY _) _).size));have HY1:=aF (cN (cU w [Value.string b.name,.slice bh.A1 b.regions.length bh.c1,.slice bh.A2 b.outl.length bh.c2,.slice bh.A3 b.types.length bh.c3,.slice bh.A4 b.locals.length bh.c4,.int .i64 b.args,.slice bh.A5 b.blocks.length bh.c5] 28) hb1);obtain ⟨y0,y1,y2,y3,y4,y5,y6⟩:=aS HY1.out;clear hb1)
  rw [Exit.noGoto_ret];go_ret;exact ⟨by rw [HF.out];rfl,HB.out⟩
 case pos=>
 have HF:Hid (R=bksE b b.blocks):=aF (by rw [HR.out,bA hd]);rw [hd] at HD;have HDOK:=aF (HOK.out hd);clear HR HOK;unfold ckC at HN;go_enter Tryz.func27,Tryz.ntmps27
 go_wp2_with fail
 go_step3
 go_wp2_with (first | (go_at_call 69;refine (HD.out _ ((aX _ _).alloc (aY _) _)).mono ?_;rintro e' w1 ⟨rfl,hb1⟩;have HB:=aF (((aX _ _).alloc (aY _) _).trans (hb1.mono ((aX _ _).alloc (aY _) _).size));have HY1:=aF (cN (cU w [Value.string b.name,.slice bh.A1 b.regions.length bh.c1,.slice bh.A2 b.outl.length bh.c2,.slice bh.A3 b.types.length bh.c3,.slice bh.A4 b.locals.length bh.c4,.int .i64 b.args,.slice bh.A5 b.blocks.length bh.c5] 28) hb1);obtain ⟨y0,y1,y2,y3,y4,y5,y6⟩:=aS HY1.out;clear hb1) | (go_at_call 70;refine (HN.out _ HB.out hd).mono ?_;rintro e' w2 ⟨r,rfl,hck,hb2⟩;have HCK2:=aF hck;have HB2:=aF (HB.out.trans (hb2.mono HB.out.size));have HY2:=aF (cN HY1.out hb2);clear y0 y1 y2 y3 y4 y5 y6;obtain ⟨y0,y1,y2,y3,y4,y5,y6⟩:=aS HY2.out;have hsz2:w.heap.size<w2.heap.size:=bO (by have:=HB.out.size;have h9:=cD _ _ (HY1.out 0 _ rfl);exact h9) hb2.size;clear hck hb2))
 go_step3
 go_wp2_with fail
 have HSM:=aF (fun (W:World) (hb:Below w2.heap.size w2 W) (s:Stm) (A0 A B:Option Addr) (c0 c d:Nat) (hp0:Slc 2 RPj w2 A0 c0 s.place.proj) (hp:Slc 2 RPj w2 A c s.rv.place.proj) (hl:Slc 4 ROp w2 B d s.rv.args)=>xBG (HCK2.out.keep hb) ((HT.out.keep HB2.out).keep hb) s A0 A B c0 c d (hp0.keep RPj.keeps hb) (hp.keep RPj.keeps hb) (hl.keep ROp.keeps hb));have HTM:=aF (fun (W:World) (hb:Below w2.heap.size w2 W) (t:Trm) (A B C:Option Addr) (c d f:Nat) (ht:Slc 1 RInt w2 A c t.targets) (hl:Slc 4 ROp w2 B d t.args) (hp:Slc 2 RPj w2 C f t.place.proj)=>xAZ (HCK2.out.keep hb) t A B C c d f (ht.keep RInt.keeps hb) (hl.keep ROp.keeps hb) (hp.keep RPj.keeps hb));have HBLK:=aF HCK2.out.at_.blk;have HCC:=aF (cU w2 (ckC b bh r) 122);unfold ckC at HSM HTM HCC;obtain ⟨bb,oo,hA5,hbb,hel⟩:=HBLK.out.sl HDOK.out.nblk.1;have HEL:=aF hel;clear hel;rw [hA5] at HSM HTM HCC ⊢;rw [hA5] at y6;clear y0 y1 y2 y3 y4 y5 y6 HD HN hd;go_loopg [3,19] b.blocks.length (fun gk e i wr=>∃k:Nat,gk=b.blocks.length - k/\k<=b.blocks.length/\e = .int .i64 0/\i = .int .i64 k/\Hid (aA (bdM b bh.A1 bh.c1 bh.A2 bh.c2 bh.A3 bh.c3 bh.A4 bh.c4 (some ⟨bb,oo,none⟩) bh.c5 [.pointer (some ⟨r,0,none⟩)]) wr w2.heap.size)/\Hid (Below w2.heap.size w2 wr)/\w2.heap.size+1<=wr.heap.size/\Hid (R=bksE b (b.blocks.drop k)))
 case atStart=>exact ⟨0,by omega,by omega,rfl,rfl,HCC,aF ((aX _ _).alloc (aY _) _),by simp,HF⟩
 case round=>
  clear HCC HF;obtain ⟨k,hgk,hk,rfl,rfl,HCC,HB3,hsz3,hr⟩:=hrel;have hlw3:w2.heap.size<wr.heap.size:=hsz3;by_cases hlt:k<b.blocks.length
  ·have hd:=cV hlt;have hx:=HEL.out k _ (bD hlt);obtain ⟨x,hxx⟩:∃x,b.blocks[k]=x:=⟨_,rfl⟩;rw [hxx] at hd hx;obtain ⟨A1,c1,A2,c2,A3,c3,A4,c4,p0,p1,p2,p3,p4,p5,p6,hs1,hs2,hs3,hs4⟩:=hH hx;have HQ:Hid (R=if bkE b x=0 then bksE b (b.blocks.drop (k+1)) else bkE b x):=aF (by rw [hr.out,hd,bksE]);have HS1:=aF hs1;have hl1:=hs1.le;have hg1:=hs1.big;have HTT:=aF (fun W hb=>HTM.out W hb x.term A2 A3 A4 c2 c3 c4 hs2 hs3 hs4);unfold tmC at HTT;replace p0:=cM HB3.out p0;replace p1:=cM HB3.out p1;replace p2:=cM HB3.out p2;replace p3:=cM HB3.out p3;replace p4:=cM HB3.out p4;replace p5:=cM HB3.out p5;replace p6:=cM HB3.out p6;clear hd hx hxx hr hs1 hs2 hs3 hs4;by_cases hln:65535<x.stmts.length
   ·have HF:Hid (R=15):=aF (by rw [HQ.out];unfold bkE;rw [bA hln];rfl);clear HQ;go_wp2_with fail
    rw [Exit.noGoto_ret];go_ret;exact ⟨by rw [HF.out];rfl,(HB2.out.trans (HB3.out.mono HB2.out.size)).alloc (bZ HB2.out.size HB3.out.size) _⟩
   have HQ2:Hid (R=if stsE b (x.stmts.drop 0)=0 then (if tmE b x.term=0 then bksE b (b.blocks.drop (k+1)) else tmE b x.term) else stsE b (x.stmts.drop 0)):=aF (by
    rw [HQ.out,bX];unfold bkE;rw [aZ hln]
    by_cases h:stsE b x.stmts=0 <;> simp [h])
   have HBK:=aF (cU wr (bkL x A1 c1 A2 c2 A3 c3 A4 c4) 64);have HCC2:Hid (∀i v,[Value.string b.name,.slice bh.A1 b.regions.length bh.c1,.slice bh.A2 b.outl.length bh.c2,.slice bh.A3 b.types.length bh.c3,.slice bh.A4 b.locals.length bh.c4,.int .i64 b.args,.slice (some ⟨bb,oo,none⟩) b.blocks.length bh.c5,.pointer (some ⟨r,0,none⟩)][i]?=some v->(wr.alloc (.cells (bkL x A1 c1 A2 c2 A3 c3 A4 c4).toArray 64)).cell? ⟨w2.heap.size,i,none⟩=some v):=aF (fun i v hi=>cM ((aX _ _).alloc (aY _) _) (HCC.out i v hi));have HB4:=aF (HB3.out.alloc (Nat.le_of_lt hlw3) (.cells (bkL x A1 c1 A2 c2 A3 c3 A4 c4).toArray 64));clear HQ;go_wp2_with fail
   go_loopg [3,30] x.stmts.length (fun gj e i wr2=>∃j:Nat,gj=x.stmts.length - j/\j<=x.stmts.length/\e = .int .i64 0/\i = .int .i64 j/\Hid (aA (bdM b bh.A1 bh.c1 bh.A2 bh.c2 bh.A3 bh.c3 bh.A4 bh.c4 (some ⟨bb,oo,none⟩) bh.c5 [.pointer (some ⟨r,0,none⟩)]) wr2 w2.heap.size)/\Hid (aA (bkL x A1 c1 A2 c2 A3 c3 A4 c4) wr2 wr.heap.size)/\Hid (Below w2.heap.size w2 wr2)/\wr.heap.size+1<=wr2.heap.size/\Hid (R=if stsE b (x.stmts.drop j)=0 then (if tmE b x.term=0 then bksE b (b.blocks.drop (k+1)) else tmE b x.term) else stsE b (x.stmts.drop j)))
   case atStart=>exact ⟨0,by omega,by omega,rfl,rfl,HCC2,HBK,HB4,by simp,HQ2⟩
   case round=>
    clear HCC2 HBK HB4 HQ2 p0 p1 p2 p3 p4 p5 p6 HCC HB3;obtain ⟨j,hgj,hj,rfl,rfl,HCC,HBK,HB5,hsz5,hr⟩:=hrel;have hlw5:=Nat.lt_of_succ_le hsz5;have hlw6:=Nat.lt_trans hlw3 hlw5;obtain ⟨v0,v1,v2,v3,v4,v5,v6,v7⟩:=aT HCC.out;by_cases hjl:j<x.stmts.length
    ·have hd:=cV hjl;obtain ⟨b3,o3,rfl,hb3,hy⟩:=HS1.out.sl.at_ hjl;obtain ⟨s,hss⟩:∃s,x.stmts[j]=s:=⟨_,rfl⟩;rw [hss] at hd hy;obtain ⟨B0,d0,B1,d1,B2,d2,m0,m1,m2,m3,m4,m5,m6,m7,m8,m9,m10,hp0,hp,hl⟩:=iV hy;have HSS:=aF (fun W hb=>HSM.out W hb s B0 B1 B2 d0 d1 d2 hp0 hp hl);unfold stC at HSS;replace m0:=cM HB5.out m0;replace m1:=cM HB5.out m1;replace m2:=cM HB5.out m2;replace m3:=cM HB5.out m3;replace m4:=cM HB5.out m4;replace m5:=cM HB5.out m5;replace m6:=cM HB5.out m6;replace m7:=cM HB5.out m7;replace m8:=cM HB5.out m8;replace m9:=cM HB5.out m9;replace m10:=cM HB5.out m10
     have HQ3:Hid ((stE b s=0->R=if stsE b (x.stmts.drop (j+1))=0 then (if tmE b x.term=0 then bksE b (b.blocks.drop (k+1)) else tmE b x.term) else stsE b (x.stmts.drop (j+1)))/\(stE b s≠0->R=stE b s)):=aF (by
      rw [hr.out,hd];constructor
      ·intro h;rw [show stsE b (s :: x.stmts.drop (j+1))=stsE b (x.stmts.drop (j+1)) from by rw [stsE,bA h]]
      ·intro h;rw [show stsE b (s :: x.stmts.drop (j+1))=stE b s from by rw [stsE,aZ h],aZ h])
     have HB6:=aF (HB5.out.alloc (Nat.le_of_lt hlw6) (.cells (stC s B0 d0 B1 d1 B2 d2).toArray 87));generalize stE b s=es at HSS HQ3;clear hd hy hss hp0 hp hl hr;by_cases he:es=0
     ·subst he;have HF:=aF (HQ3.out.1 rfl);clear HQ3;go_wp2_with (go_at_call 71;refine (HSS.out _ HB6.out).mono ?_;rintro e' w5 ⟨rfl,hb5⟩;have HB7:=aF (HB6.out.trans (hb5.mono HB6.out.size));have HC7:=aF (dL HCC.out hb5);have HK7:=aF (dL HBK.out hb5);have hsz7:=hb5.size;simp only [bI] at hsz7;clear hb5)
      go_roundg (x.stmts.length - (j+1))
      case measure=>omega
      case rel=>exact ⟨j+1,rfl,by omega,rfl,by go_num,HC7,HK7,HB7,by omega,HF⟩
     ·have HF:=aF (HQ3.out.2 he);have e1:(es != 0)=true:=by simp [he]
      clear HQ3 he;go_wp2_with (go_at_call 71;refine (HSS.out _ HB6.out).mono ?_;rintro e' w5 ⟨rfl,hb5⟩;have HB7:=aF (HB6.out.trans (hb5.mono HB6.out.size));clear hb5)
      rw [Exit.noGoto_ret];go_ret;exact ⟨by rw [HF.out];rfl,HB2.out.trans (HB7.out.mono HB2.out.size)⟩
    ·have HQ3:Hid (R=if tmE b x.term=0 then bksE b (b.blocks.drop (k+1)) else tmE b x.term):=aF (by rw [hr.out,bE (by omega:x.stmts.length<=j)];rfl);obtain ⟨k0,k1,k2,k3,k4,k5,k6⟩:=aS HBK.out;generalize tmE b x.term=et at HTT HQ3;clear hr;by_cases he:et=0
     ·subst he;have HF:Hid (R=bksE b (b.blocks.drop (k+1))):=aF (by rw [HQ3.out];rfl);clear HQ3;go_wp2_with (go_at_call 72;refine (HTT.out _ HB5.out).mono ?_;rintro e' w5 ⟨rfl,hb5⟩;have HB7:=aF (HB5.out.trans (hb5.mono HB5.out.size));have HC7:=aF (cN HCC.out hb5);have hsz7:=hb5.size;clear hb5)
      go_roundg (b.blocks.length - (k+1))
      case measure=>omega
      case rel=>exact ⟨k+1,rfl,by omega,rfl,by go_num,HC7,HB7,by omega,HF⟩
     ·have HF:Hid (R=et):=aF (by rw [HQ3.out,aZ he]);have e1:(et == 0)=false:=by simp [he]
      clear HQ3 he;go_wp2_with (go_at_call 72;refine (HTT.out _ HB5.out).mono ?_;rintro e' w5 ⟨rfl,hb5⟩;have HB7:=aF (HB5.out.trans (hb5.mono HB5.out.size));clear hb5)
      rw [Exit.noGoto_ret];go_ret;exact ⟨by rw [HF.out];rfl,HB2.out.trans (HB7.out.mono HB2.out.size)⟩
  ·have HF:Hid (R=0):=aF (by rw [hr.out,bE (by omega:b.blocks.length<=k)];rfl);clear hr;go_wp2_with fail
   rw [Exit.noGoto_ret];go_ret;exact ⟨by rw [HF.out];rfl,HB2.out.trans (HB3.out.mono HB2.out.size)⟩
end
section
open Go Go.RowKit
def cntP:List Blk->Nat
 | []=>0
 | x :: xs=>(x.stmts.length+1)+cntP xs
theorem xAC (l:List Blk) (x:Blk):cntP (l ++ [x])=cntP l+(x.stmts.length+1):=by
 induction l with
 | nil=>simp [cntP]
 | cons y l ih=>simp only [List.cons_append,cntP,ih];omega
theorem xAB {l:List Blk} {k:Nat} (h:k<l.length):cntP (l.take (k+1))=cntP (l.take k)+(l[k].stmts.length+1):=by
 rw [bF h,xAC]
theorem xGQ {l:List Blk} {m:Nat} (h:∀x∈l,x.stmts.length<=m):cntP l<=(m+1) * l.length:=by
 induction l with
 | nil=>simp [cntP]
 | cons y l ih=>
   have h1:=h y (by simp);have h2:=ih (fun x hx=>h x (by simp [hx]));simp only [cntP,bK,Nat.mul_add];omega
theorem qP {l:List Blk} (k:Nat):cntP (l.take k)<=cntP l:=by
 induction l generalizing k with
 | nil=>simp [cntP]
 | cons y l ih=>
   cases k with
   | zero=>simp [cntP]
   | succ k=>simp only [List.take_succ_cons,cntP];have:=ih k;omega
def stL (l:List Blk) (k:Nat):List Int:=(List.range (k+1)).map (fun i=>((cntP (l.take i):Nat):Int))
theorem xBH (l:List Blk):stL l 0=[0]:=by simp [stL,cntP]
theorem xE (l:List Blk) (k:Nat):(stL l k).length=k+1:=by simp [stL]
theorem xDQ (l:List Blk) {k i:Nat} (h:i<=k):(stL l k)[i]?=some ((cntP (l.take i):Nat):Int):=by
 simp [stL,show i<k+1 by omega]
theorem xBI (l:List Blk) (k:Nat):stL l (k+1)=stL l k ++ [((cntP (l.take (k+1)):Nat):Int)]:=by
 unfold stL;rw [List.range_succ,bU];rfl
theorem xFP (w:World) (x:Value) (e:TypeId) (base:Nat) (hb:base<=w.heap.size):(w.alloc (.cells #[x] e)).ownsRow base e 1 (.slice (some ⟨w.heap.size,0,none⟩) 1 1) 1 [x]:=
 ⟨rfl,.inr ⟨w.heap.size,1,#[x],rfl,hb,heap_alloc_new w _,aY _,by decide,rfl,rfl⟩⟩
theorem uQ (b:Bdy) (bh:BH) (w:World) (H:BdAt w b bh) (hz:cntP b.blocks<=4611686018427387904) (hl:b.blocks.length<=1000000):
 Calls Tryz.prog 90 #[.agg (bdC b bh).toArray] w fun e' w'=>(∃A c,e' = .returned (.slice A (b.blocks.length+1) c)/\Slc 1 RInt w' A c (stL b.blocks b.blocks.length))/\Below w.heap.size w w':=by
 obtain ⟨A1,c1,A2,c2,A3,c3,A4,c4,A5,c5⟩:=bh;have hbl:=H.blk.le;have hbg:=H.blk.big;have HBK:=aF H.blk;have HZ:=aF hz;simp only at hbl hbg HBK;obtain ⟨i0,hi,hz0,hz1,hz2⟩:=info_parts dW;have HCW:=aF (cU w [Value.string b.name,.slice A1 b.regions.length c1,.slice A2 b.outl.length c2,.slice A3 b.types.length c3,.slice A4 b.locals.length c4,.int .i64 b.args,.slice A5 b.blocks.length c5] 28);have HBW:=aF ((aX w.heap.size w).alloc (aY _) (.cells ([Value.string b.name,.slice A1 b.regions.length c1,.slice A2 b.outl.length c2,.slice A3 b.types.length c3,.slice A4 b.locals.length c4,.int .i64 b.args,.slice A5 b.blocks.length c5]).toArray 28));have y6:(w.alloc (.cells ([Value.string b.name,.slice A1 b.regions.length c1,.slice A2 b.outl.length c2,.slice A3 b.types.length c3,.slice A4 b.locals.length c4,.int .i64 b.args,.slice A5 b.blocks.length c5]).toArray 28)).cell? ⟨w.heap.size,6,none⟩=some (.slice A5 b.blocks.length c5):=HCW.out 6 _ rfl;clear H HCW hz;unfold bdC;simp only;go_enter Tryz.func90,Tryz.ntmps90
 go_wp2_with fail
 have hz0':w.heap.size+1<=((w.alloc (.cells ([Value.string b.name,.slice A1 b.regions.length c1,.slice A2 b.outl.length c2,.slice A3 b.types.length c3,.slice A4 b.locals.length c4,.int .i64 b.args,.slice A5 b.blocks.length c5]).toArray 28)).alloc (.cells #[.int .i64 0] 3)).heap.size:=by simp
 have HO0:Hid (((w.alloc (.cells ([Value.string b.name,.slice A1 b.regions.length c1,.slice A2 b.outl.length c2,.slice A3 b.types.length c3,.slice A4 b.locals.length c4,.int .i64 b.args,.slice A5 b.blocks.length c5]).toArray 28)).alloc (.cells #[.int .i64 0] 3)).ownsRow (w.heap.size+1) 3 1 (.slice (some ⟨w.heap.size+1,0,none⟩) 1 1) 1 ((stL b.blocks 0).map (Value.int .i64))):=aF (by
  rw [xBH];have h:=xFP (w.alloc (.cells ([Value.string b.name,.slice A1 b.regions.length c1,.slice A2 b.outl.length c2,.slice A3 b.types.length c3,.slice A4 b.locals.length c4,.int .i64 b.args,.slice A5 b.blocks.length c5]).toArray 28)) (.int .i64 0) 3 (w.heap.size+1) (by simp)
  rwa [bI] at h)
 have HB1:Hid (Below w.heap.size w ((w.alloc (.cells ([Value.string b.name,.slice A1 b.regions.length c1,.slice A2 b.outl.length c2,.slice A3 b.types.length c3,.slice A4 b.locals.length c4,.int .i64 b.args,.slice A5 b.blocks.length c5]).toArray 28)).alloc (.cells #[.int .i64 0] 3))):=aF (HBW.out.alloc (by simp) _);go_loopw [3,10] (fun v i wr=>∃k:Nat,k<=b.blocks.length/\i = .int .i64 k/\Hid (wr.ownsRow (w.heap.size+1) 3 1 v (k+1) ((stL b.blocks k).map (Value.int .i64)))/\Hid (Below w.heap.size w wr)) (fun _ i _=>b.blocks.length - (intOf i).toNat)
 case atStart=>exact ⟨0,by omega,rfl,HO0,HB1⟩
 case round=>
  clear HO0 HB1 hz0';obtain ⟨k,hk,rfl,HO,HB⟩:=hrel;obtain ⟨g,cap,rfl⟩:=ownsRow_succ HO.out;have hsz:=HB.out.size;have hgl:=(HO.out.lt g rfl);by_cases hlt:k<b.blocks.length
  case neg=>
   obtain rfl:k=b.blocks.length:=by omega
   have HSL:=lB (R:=RInt) (enc:=Value.int .i64) (fun w B b o x h=>h) HO.out (xE _ _);have HS:=aF HSL;clear HSL hgl;go_wp2_with fail
   go_ret;obtain ⟨A,c,e,hs,-⟩:=HS.out;exact ⟨⟨A,c,by rw [e];rfl,hs⟩,HB.out⟩
  case pos=>
  obtain ⟨bb,oo,rfl,hbb,y⟩:=HBK.out.sl.at_ hlt;obtain ⟨S1,d1,S2,d2,S3,d3,S4,d4,h0,h1,h2,h3,h4,h5,h6,q1,q2,q3,q4⟩:=hH y;have g0:=(HB.out.cell (p:=⟨bb,oo+k * 7,none⟩) hbb).trans h0;have g1:=(HB.out.cell (p:=⟨bb,oo+k * 7+1,none⟩) hbb).trans h1;have g2:=(HB.out.cell (p:=⟨bb,oo+k * 7+2,none⟩) hbb).trans h2;have g3:=(HB.out.cell (p:=⟨bb,oo+k * 7+3,none⟩) hbb).trans h3;have g4:=(HB.out.cell (p:=⟨bb,oo+k * 7+4,none⟩) hbb).trans h4;have g5:=(HB.out.cell (p:=⟨bb,oo+k * 7+5,none⟩) hbb).trans h5;have g6:=(HB.out.cell (p:=⟨bb,oo+k * 7+6,none⟩) hbb).trans h6;have HT:=aF (xAB hlt);have hle2:=qP (l:=b.blocks) (k+1);have hZ2:cntP (b.blocks.take (k+1))<=4611686018427387904:=bZ hle2 HZ.out;have HSU:=aF (xBI b.blocks k);have hcell:=HO.out.cells (g:=g) rfl k (.int .i64 (cntP (b.blocks.take k))) (by rw [cL,xDQ _ (aY k)];rfl);rw [add0] at hcell;generalize b.blocks[k]=x at *;obtain ⟨xs,tk,tg,ar,⟨tl,tp⟩,tn⟩:=x;simp only at g0 g1 g2 g3 g4 g5 g6 HT;clear h0 h1 h2 h3 h4 h5 h6 q1 q2 q3 q4 y hle2;rw [HT.out] at hZ2 HSU;obtain ⟨m,hm⟩:∃m,xs.length=m:=⟨_,rfl⟩;obtain ⟨c,hc⟩:∃c,cntP (b.blocks.take k)=c:=⟨_,rfl⟩;rw [hm] at HSU hZ2 g0;rw [hc] at HSU hZ2 hcell;have hw1:IntKind.i64.wrap ((c:Int)+(m:Int))=((c+m:Nat):Int):=by rw [IntKind.wrap_i64];omega
  have hw2:IntKind.i64.wrap (((c+m:Nat):Int)+1)=((c+(m+1):Nat):Int):=by rw [IntKind.wrap_i64];omega
  clear hm hc HT;go_wp2_with fail
  obtain ⟨W1,hW1⟩:∃W,wr.alloc (.cells #[.slice S1 m d1,.int .i64 tk,.slice S2 tg.length d2,.slice S3 ar.length d3,.int .i64 tl,.slice S4 tp.length d4,.string tn] 64)=W:=⟨_,rfl⟩;have hbW:Below wr.heap.size wr W1:=by rw [<- hW1];exact (aX _ _).alloc (aY _) _
  have hnew:=cU wr [.slice S1 m d1,.int .i64 tk,.slice S2 tg.length d2,.slice S3 ar.length d3,.int .i64 tl,.slice S4 tp.length d4,.string tn] 64 0 _ rfl;simp only [hW1] at hnew;have HO1:Hid (W1.ownsRow (w.heap.size+1) 3 1 (.slice (some ⟨g,0,none⟩) (k+1) cap) (k+1) ((stL b.blocks k).map (Value.int .i64))):=aF (dF HO.out hbW);have HBB:=aF (HB.out.trans (hbW.mono hsz));try rw [hW1]
  have hkk:(k:Int)<(k:Int)+1:=by omega
  have hS:W1.drew.cell? ⟨g,k,none⟩=some (.int .i64 c)/\W1.drew.cell? ⟨wr.heap.size,0,none⟩=some (.slice S1 m d1):=⟨cM hbW.drew hcell,hnew⟩;refine dT (S:=fun X=>X.cell? ⟨g,k,none⟩=some (.int .i64 c)/\X.cell? ⟨wr.heap.size,0,none⟩=some (.slice S1 m d1)) 11 [0,1,2,3,4,5,6,7,8,9,10,11,12] (by kernel_rfl) ?_;(iterate 8 (refine eI (v:=?_) (by kernel_rfl) (fun _ _ _ h=>h) (Or.inl ⟨by rfl,?_⟩) hS ?_;rotate_left;(next=>(rintro X ⟨s1,s2⟩;(try simp only [aI]);go_simp;rfl));simp only [aM]));refine eI (v:= .int .i64 ((c+m:Nat):Int)) (by kernel_rfl) (fun _ _ _ h=>h) (Or.inl ⟨by rfl,?_⟩) hS ?_
  ·rintro X -
   (try simp only [aI]);go_simp
  (simp only [aM]);refine eI (v:= .int .i64 ((c+(m+1):Nat):Int)) (by kernel_rfl) (fun _ _ _ h=>h) (Or.inl ⟨by rfl,?_⟩) hS ?_
  ·rintro X -
   (try simp only [aI]);go_simp;first | rfl | (rw [IntKind.wrap_i64];omega)
  (simp only [aM]);(refine cS (fun K1 hK1=>?_);simp only [aM];rw [bA (by rfl)];go_simp);have hbn:Below W1.heap.size W1 (W1.alloc (.cells #[.int .i64 (((c+(m+1):Nat):Int))] 3)):=(aX _ _).alloc (aY _) _;have hnx:=lG W1 [.int .i64 (((c+(m+1):Nat):Int))] 3;have hO2:=dF HO1.out hbn.drew;obtain ⟨W2,hW2⟩:∃W,(W1.alloc (.cells #[.int .i64 (((c+(m+1):Nat):Int))] 3)).drew=W:=⟨_,rfl⟩;push_cast at hW2
  try rw [hW2]
  have hbn2:Below W1.heap.size W1 W2:=by rw [<- hW2];exact hbn.drew
  have hO3:W2.ownsRow (w.heap.size+1) 3 1 (.slice (some ⟨g,0,none⟩) (k+1) cap) (k+1) ((stL b.blocks k).map (Value.int .i64)):=dF HO1.out hbn2
  have hnx2:∀j u,[Value.int .i64 ((c+(m+1):Nat):Int)][j]?=some u->W2.cell? ((⟨W1.heap.size,0,none⟩:Addr).add j)=some u:=fun j u hj=>by
   rw [add0,<- hW2];exact hnx j u hj
  have hS2:W2.cell? ⟨g,k,none⟩=some (.int .i64 c)/\W2.cell? ⟨wr.heap.size,0,none⟩=some (.slice S1 m d1):=⟨cM hbn2 hS.1,cM hbn2 hS.2⟩;have hB2:Below w.heap.size w W2:=HBB.out.trans (hbn2.mono HBB.out.size);have hsz2:=hB2.size;have hw1s:W1.heap.size<W2.heap.size:=by rw [<- hW2];simp
  refine hK1.out _ _ (fun _=>hS2) ?_;clear hK1;(refine cS (fun K1 hK1=>?_);simp only [aM];rw [bA (by rfl)]);refine gK (.tmp 15) (.tmp 25) 58 rfl (w.heap.size+1) 3 i0 (.int .i64 0) 1 8 Tryz.underlying58 hi hz0 hz1 hz2 rfl (by decide) (.slice (some ⟨g,0,none⟩) (k+1) cap) (k+1) _ rfl hO3 ⟨W1.heap.size,0,none⟩ 1 1 [.int .i64 ((c+(m+1):Nat):Int)] rfl rfl hnx2 (fun u hu=>by simp at hu;subst hu;rfl) (by unfold maxLen;omega) (by omega) (by have:=HBB.out.size;have:=hbW.size;omega) ?_;intro v' w5 hown' hgrow _;obtain ⟨B5,d5,hv⟩:=lM hown';subst hv;have HO5:Hid (w5.ownsRow (w.heap.size+1) 3 1 (.slice B5 (k+1+1) d5) (k+1+1) ((stL b.blocks (k+1)).map (Value.int .i64))):=aF (by rw [HSU.out,bU];exact hown');have HB5:=aF (hB2.grown hgrow (by omega) (fun q hq=>by have:=(hO3.lt q hq).1;omega));refine hK1.out _ _ (fun h=>absurd h (by decide)) ?_;clear hK1 hown' hgrow hO3 hnx2 hS2 hS hW2 hbn hbn2 hB2 hnx hO2;(refine cS (fun K1 hK1=>?_);simp only [aM];rw [bA (by rfl)];go_simp);refine hK1.out _ _ (fun h=>absurd h (by decide)) ?_;refine cZ ?_;go_wp2_with fail
  go_roundw
  case rel=>exact ⟨k+1,by omega,by go_num,HO5,HB5⟩
  case measure=>simp [intOf];omega
theorem vO (b:Bdy) (bh:BH) (w:World) (H:BdAt w b bh) (hz:cntP b.blocks<=4611686018427387904) (hl:b.blocks.length<=1000000):
 Calls Tryz.prog 44 #[.agg (bdC b bh).toArray] w fun e' w'=>e' = .returned (.int .i64 (cntP b.blocks))/\Below w.heap.size w w':=by
 obtain ⟨A1,c1,A2,c2,A3,c3,A4,c4,A5,c5⟩:=bh;have hbl:=H.blk.le;have hbg:=H.blk.big;simp only at hbl hbg;have HBW:=aF ((aX w.heap.size w).alloc (aY _) (.cells ([Value.string b.name,.slice A1 b.regions.length c1,.slice A2 b.outl.length c2,.slice A3 b.types.length c3,.slice A4 b.locals.length c4,.int .i64 b.args,.slice A5 b.blocks.length c5]).toArray 28))
 have HF:Hid (Calls Tryz.prog 90 #[.agg ([Value.string b.name,.slice A1 b.regions.length c1,.slice A2 b.outl.length c2,.slice A3 b.types.length c3,.slice A4 b.locals.length c4,.int .i64 b.args,.slice A5 b.blocks.length c5]).toArray] (w.alloc (.cells ([Value.string b.name,.slice A1 b.regions.length c1,.slice A2 b.outl.length c2,.slice A3 b.types.length c3,.slice A4 b.locals.length c4,.int .i64 b.args,.slice A5 b.blocks.length c5]).toArray 28)) fun e' w'=>∃g o c,e' = .returned (.slice (some ⟨g,o,none⟩) (b.blocks.length+1) c)/\w'.cell? ⟨g,o+b.blocks.length,none⟩=some (.int .i64 (cntP b.blocks))/\Below (w.alloc (.cells ([Value.string b.name,.slice A1 b.regions.length c1,.slice A2 b.outl.length c2,.slice A3 b.types.length c3,.slice A4 b.locals.length c4,.int .i64 b.args,.slice A5 b.blocks.length c5]).toArray 28)).heap.size (w.alloc (.cells ([Value.string b.name,.slice A1 b.regions.length c1,.slice A2 b.outl.length c2,.slice A3 b.types.length c3,.slice A4 b.locals.length c4,.int .i64 b.args,.slice A5 b.blocks.length c5]).toArray 28)) w'):=
  aF ((uQ b ⟨A1,c1,A2,c2,A3,c3,A4,c4,A5,c5⟩ _ (H.keep HBW.out) hz hl).mono (by
   rintro e' w1 ⟨⟨A,c,rfl,hs⟩,hb⟩;obtain ⟨gb,go,rfl,hgb,hx⟩:=hs.sl.at_ (i:=b.blocks.length) (by rw [xE];omega);refine ⟨gb,go,c,rfl,?_,hb⟩;have h:=hx;unfold RInt at h;rw [Nat.mul_one] at h;obtain ⟨_,e⟩:=List.getElem_of_getElem? (xDQ b.blocks (aY b.blocks.length))
   rw [h,e,cA]))
 have hwl:IntKind.i64.wrap ((b.blocks.length:Int)+1 - 1)=(b.blocks.length:Int):=by rw [IntKind.wrap_i64];omega
 have hll:(b.blocks.length:Int)<(b.blocks.length:Int)+1:=by omega
 clear H;unfold bdC;simp only;go_enter Tryz.func44,Tryz.ntmps44
 go_wp2_with (go_at_call 90;refine HF.out.mono ?_;rintro e' w1 ⟨g,o,c,rfl,x0,hb⟩)
 go_ret;exact ⟨rfl,HBW.out.trans (hb.mono HBW.out.size)⟩
def mutP (m:Bool):List UInt8:=if m then [109,117,116,32] else []
def lnP (ls:List Lc) (rs:List ByteArray) (l:Ln):List UInt8:=[108,111,97,110,32,39] ++ rgP rs l.reg ++ [32] ++ mutP l.mu ++ placeP ls l.place ++ [32,97,116,32] ++ Lib.itoa l.pt
def tR (ls:List Lc) (rs:List ByteArray) (l:Ln):List UInt8:=[32,32] ++ lnP ls rs l ++ semP
def prP (wd:List UInt8) (x:Int × Int):List UInt8:=wd ++ [32] ++ Lib.itoa x.1 ++ [32] ++ Lib.itoa x.2
def prLine (wd:List UInt8) (x:Int × Int):List UInt8:=[32,32] ++ prP wd x ++ semP
def lvP (rs:List ByteArray) (x:Int × Int):List UInt8:=[108,105,118,101,32,39] ++ rgP rs x.1 ++ [32] ++ Lib.itoa x.2
def tO (rs:List ByteArray) (x:Int × Int):List UInt8:=[32,32] ++ lvP rs x ++ semP
def wEdge:List UInt8:=[101,100,103,101]
def wKill:List UInt8:=[107,105,108,108,101,100]
def wInv:List UInt8:=[105,110,118,97,108,105,100]
def wFacts:List UInt8:=[102,97,99,116,115]
def printF (b:Bdy) (f:Fct):List UInt8:=
 headP wFacts b ++ (f.loans.flatMap (tR b.locals b.regions) ++ (f.edges.flatMap (prLine wEdge) ++ (f.killed.flatMap (prLine wKill) ++ (f.inval.flatMap (prLine wInv) ++ (f.live.flatMap (tO b.regions) ++ [125,10])))))
def canP (nl:Nat) (l:Ln):Prop:=l.place.loc<nl/\∀x∈l.place.proj,x.field<65535
instance (nl:Nat) (l:Ln):Decidable (canP nl l):=by unfold canP;exact inferInstance
def okF (b:Bdy) (f:Fct):Prop:=chkB b=0/\fctE f (cntP b.blocks) b.regions.length=0/\∀l∈f.loans,canP b.locals.length l
instance (b:Bdy) (f:Fct):Decidable (okF b f):=by unfold okF;exact inferInstance
def pfR (b:Bdy) (f:Fct):List UInt8 × Int:=if okF b f then (printF b f,0) else ([],16)
theorem nF (l:List Opd) (B:Option Addr) (d:Nat) (w:World) (hs:Slc 4 ROp w B d l):
 Calls Tryz.prog 64 #[.slice B l.length d] w fun e' w'=>(∃q:Int,e' = .returned (.int .i64 q)/\0<=q/\q<=20000)/\Below w.heap.size w w':=by
 have hle:=hs.le;have hbg:=hs.big;obtain ⟨n0,hn0⟩:∃n:Nat,min l.length 9000=n:=⟨_,rfl⟩;have hn1:n0<=l.length:=by omega
 have hn2:n0<=9000:=by omega
 have HS:=aF (hs.takeN n0);have hlen:(l.take n0).length=n0:=by simp;omega
 have hmin:min (l.length:Int) 9000=(n0:Int):=by omega
 have hcut:∀W,(Instr.slice 59 (.slice B l.length d) none (some (.int .i64 (n0:Int))) none).run Tryz.prog W = .ok (.slice B n0 d) W:=fun W=>by
  have:=nV (P:=Tryz.prog) 59 160 B l.length d n0 4 Tryz.underlying59 Tryz.sizeOf160 hn1 hle W;rwa [show cutA B d 0 4=B by cases B <;> simp [cutA,Addr.add]] at this
 generalize l.take n0=l' at HS hlen;generalize l.length=L at hcut hmin ⊢;clear hs;go_enter Tryz.func64,Tryz.ntmps64
 go_wp2_with fail
 clear hmin hcut;go_loopw [3,13] (fun v i wr=>∃(k:Nat) (m:Int),k<=n0/\i = .int .i64 k/\v = .int .i64 m/\0<=m/\m<=9000/\Hid (Below w.heap.size w wr)) (fun _ i _=>n0 - (intOf i).toNat)
 case atStart=>exact ⟨0,_,by omega,rfl,rfl,by omega,by omega,aF (aX _ _)⟩
 case round=>
  obtain ⟨k,m,hk,rfl,rfl,hm0,hm1,HB⟩:=hrel;by_cases hlt:k<n0
  ·have hlt2:k<l'.length:=by omega
   obtain ⟨b5,o5,rfl,hb5,hx⟩:=HS.out.sl.at_ hlt2;generalize l'[k]=o at hx;obtain ⟨p0,⟨p1,A2,c2,p2,hc1,hc2,hsl⟩,p3⟩:=ROp.keeps _ _ _ w.heap.size _ _ _ (aY _) hb5 HB.out hx;have p2':wr.cell? ⟨b5,o5+k * 4+2,none⟩=some (.slice A2 o.place.proj.length c2):=p2;have hsz:=HB.out.size;clear hx hsl p2;go_wp2_with fail
   all_goals first
    | (go_ret;exact ⟨⟨_,rfl,by omega,by omega⟩,HB.out.alloc hsz _⟩)
    | (go_roundw
       case rel=>exact ⟨k+1,_,by omega,by go_num,rfl,by omega,by omega,aF (HB.out.alloc hsz _)⟩
       case measure=>simp [intOf];omega)
  ·go_wp2_with fail
   go_ret;exact ⟨⟨_,rfl,by omega,by omega⟩,HB.out⟩
structure ShortB (b:Bdy):Prop where
 outl:b.outl.length<=65535
 regs:b.regions.length<=65535
 typs:b.types.length<=65535
 locs:b.locals.length<=65535
 blks:∀x∈b.blocks,x.stmts.length<=65535/\x.term.targets.length<=2/\x.term.place.proj.length<=32/\∀s∈x.stmts,s.place.proj.length<=32/\s.rv.place.proj.length<=32
theorem gC {n:Int} (h1 : -9223372036854775808<=n) (h2:n<=9223372036854775807):wrap64 n=n:=by unfold wrap64;omega
def tyZ (l:List Ty):Nat:=(l.map (fun t=>1+min t.flds.length 9000)).sum
theorem xAR (l:List Ty) (t:Ty):tyZ (l ++ [t])=tyZ l+(1+min t.flds.length 9000):=by simp [tyZ]
def namesZ (b:Bdy):Nat:=szN b.name+b.outl.length+sumN b.regions+tyZ b.types+sumN (b.locals.map (·.name))+sumN (b.blocks.map (·.term.name))
def z1 (b:Bdy) (k:Nat):Nat:=szN b.name+b.outl.length+sumN (b.regions.take k)
def z2 (b:Bdy) (k:Nat):Nat:=z1 b b.regions.length+tyZ (b.types.take k)
def z3 (b:Bdy) (k:Nat):Nat:=z2 b b.types.length+sumN ((b.locals.take k).map (·.name))
def z4 (b:Bdy) (k:Nat):Nat:=z3 b b.locals.length+sumN ((b.blocks.take k).map (·.term.name))
theorem xGX (b:Bdy):z4 b b.blocks.length=namesZ b:=by
 unfold z4 z3 z2 z1 namesZ;simp only [cA]
theorem kQ {α : Type} {l:List α} {k:Nat} (h:k<l.length):l.take (k+1)=l.take k ++ [l[k]]:=bF h
theorem xEH (b:Bdy) (k:Nat) (h:k<b.regions.length):z1 b (k+1)=z1 b k+(1+min b.regions[k].size 9000):=by
 unfold z1;rw [kQ h,lA];unfold szN;omega
theorem xEG (b:Bdy) (k:Nat) (h:k<b.types.length):z2 b (k+1)=z2 b k+(1+min b.types[k].flds.length 9000):=by
 unfold z2;rw [kQ h,xAR];omega
theorem xEE (b:Bdy) (k:Nat) (h:k<b.locals.length):z3 b (k+1)=z3 b k+(1+min b.locals[k].name.size 9000):=by
 unfold z3;rw [kQ h,bU,cJ,cK,lA];unfold szN;omega
theorem xEC (b:Bdy) (k:Nat) (h:k<b.blocks.length):z4 b (k+1)=z4 b k+(1+min b.blocks[k].term.name.size 9000):=by
 unfold z4;rw [kQ h,bU,cJ,cK,lA];unfold szN;omega
theorem xHE {m a b c d:Int} (hm:0<=m/\m<=23000) (ha:0<=a/\a<=65535) (hb:0<=b/\b<=2) (hc:0<=c/\c<=32) (hd:0<=d/\d<=9000):wrap64 (m+wrap64 (wrap64 (wrap64 (wrap64 (1+a)+b)+c)+d))=m+(1+a+b+c+d):=by
 rw [gC (n:=1+a) (by omega) (by omega),gC (n:=1+a+b) (by omega) (by omega),gC (n:=1+a+b+c) (by omega) (by omega),gC (n:=1+a+b+c+d) (by omega) (by omega),gC (by omega) (by omega)]
theorem xHD {m a b q:Int} (hm:0<=m/\m<=3000) (ha:0<=a/\a<=32) (hb:0<=b/\b<=32) (hq:0<=q/\q<=20000):wrap64 (m+wrap64 (wrap64 (a+b)+q))=m+(a+b+q):=by
 rw [gC (n:=a+b) (by omega) (by omega),gC (n:=a+b+q) (by omega) (by omega),gC (by omega) (by omega)]
theorem xEF (b:Bdy):z2 b 0=z1 b b.regions.length:=by unfold z2;simp [tyZ]
theorem xED (b:Bdy):z3 b 0=z2 b b.types.length:=by unfold z3;simp [sumN]
theorem xEB (b:Bdy):z4 b 0=z3 b b.locals.length:=by unfold z4;simp [sumN]
theorem qG (b:Bdy) (bh:BH) (w:World) (H:BdAt w b bh) (hz:NmOk b):
 Calls Tryz.prog 23 #[.agg (bdC b bh).toArray] w fun e' w'=>(∃q:Int,e' = .returned (.int .i64 q)/\(q<=0->ShortB b->namesZ b<=3000))/\Below w.heap.size w w':=by
 obtain ⟨A1,c1,A2,c2,A3,c3,A4,c4,A5,c5⟩:=bh;have HH:=aF H;have HZ:=aF hz;have r1:=H.reg.le;have r2:=H.reg.big;have o1:=H.out.le;have o2:=H.out.big;have l1:=H.loc.le;have l2:=H.loc.big;have t1:=H.typ.le;have t2:=H.typ.big;have b1:=H.blk.le;have b2:=H.blk.big;have n1:=hz.name;simp only at r1 r2 o1 o2 l1 l2 t1 t2 b1 b2;clear H hz;unfold bdC;simp only;have HCW:=aF (cU w [Value.string b.name,.slice A1 b.regions.length c1,.slice A2 b.outl.length c2,.slice A3 b.types.length c3,.slice A4 b.locals.length c4,.int .i64 b.args,.slice A5 b.blocks.length c5] 28);have HBW:=aF ((aX w.heap.size w).alloc (aY _) (.cells ([Value.string b.name,.slice A1 b.regions.length c1,.slice A2 b.outl.length c2,.slice A3 b.types.length c3,.slice A4 b.locals.length c4,.int .i64 b.args,.slice A5 b.blocks.length c5]).toArray 28));have HSZ:w.heap.size<(w.alloc (.cells ([Value.string b.name,.slice A1 b.regions.length c1,.slice A2 b.outl.length c2,.slice A3 b.types.length c3,.slice A4 b.locals.length c4,.int .i64 b.args,.slice A5 b.blocks.length c5]).toArray 28)).heap.size:=by simp
 go_enter Tryz.func23,Tryz.ntmps23
 go_wp2_with fail
 go_loopw [3,25] (fun v i wr=>∃(k:Nat) (m:Int),k<=b.regions.length/\i = .int .i64 k/\v = .int .i64 m/\Hid (aA (bdM b A1 c1 A2 c2 A3 c3 A4 c4 A5 c5 []) wr w.heap.size)/\Hid (Below w.heap.size w wr)/\w.heap.size<wr.heap.size/\Hid (ShortB b->((z1 b k:Nat):Int)<=m/\m<=80000+9001 * k)) (fun _ i _=>b.regions.length - (intOf i).toNat)
 case atStart=>
  refine ⟨0,_,by omega,rfl,rfl,HCW,HBW,HSZ,aF (fun hS=>?_)⟩;have h1:=hS.outl;have h2:z1 b 0=min b.name.size 9000+b.outl.length:=by unfold z1 szN;simp [sumN]
  rw [h2];try unfold wrap64
  omega
 case round=>
  obtain ⟨k,m,hk,rfl,rfl,HCC,HB,hlw,HR⟩:=hrel;clear HCW HBW HSZ;by_cases hlt:k<b.regions.length
  ·have HST:=aF (xEH b k hlt);obtain ⟨b5,o5,rfl,hb5,y⟩:=HH.out.reg.sl.at_ hlt;have hzs:=HZ.out.regs _ (bN hlt);generalize b.regions[k]=x at *;have p0:wr.cell? ⟨b5,o5+k,none⟩=some (.string x):=cM HB.out (by simpa [RN] using y);clear y;go_wp2_with fail
   go_roundw
   case rel=>
    refine ⟨k+1,_,by omega,by go_num,rfl,HCC,HB,hlw,aF (fun hS=>?_)⟩;have h1:=HR.out hS;have h2:=HST.out;have h3:=hS.regs;try unfold wrap64
    omega
   case measure=>simp [intOf];omega
  ·have HR2:Hid (ShortB b->((z2 b 0:Nat):Int)<=m/\m<=600000000):=aF (fun hS=>by
    have h1:=HR.out hS;have h3:=hS.regs;have h4:k=b.regions.length:=(by omega);rw [xEF,<- h4]
    omega)
   obtain ⟨y0,y1,y2,y3,y4,y5,y6⟩:=aS HCC.out;clear HR;go_wp2_with fail
   clear hlt hk;clear y0 y1 y2 y3 y4 y5 y6;go_loopw [3,39] (fun v i wr=>∃(k:Nat) (m:Int),k<=b.types.length/\i = .int .i64 k/\v = .int .i64 m/\Hid (aA (bdM b A1 c1 A2 c2 A3 c3 A4 c4 A5 c5 []) wr w.heap.size)/\Hid (Below w.heap.size w wr)/\w.heap.size<wr.heap.size/\Hid (ShortB b->((z2 b k:Nat):Int)<=m/\m<=600000000+9001 * k)) (fun _ i _=>b.types.length - (intOf i).toNat)
   case atStart=>exact ⟨0,m,by omega,rfl,rfl,HCC,HB,hlw,aF (fun hS=>by have:=HR2.out hS;omega)⟩
   case round=>
    clear HCC HB hlw HR2;obtain ⟨k,m,hk,rfl,rfl,HCC,HB,hlw,HR⟩:=hrel;by_cases hlt:k<b.types.length
    ·have HST:=aF (xEG b k hlt);obtain ⟨b5,o5,rfl,hb5,y⟩:=HH.out.typ.sl.at_ hlt;obtain ⟨p0,p1,p2,p3,A6,c6,p4,p5,p6,_⟩:=RTy.keeps _ _ _ w.heap.size _ _ _ (aY _) hb5 HB.out y;generalize b.types[k]=x at *;have HCC2:=aF (fun o i v hi=>cM (alF wr o) (HCC.out i v hi));have HB2:=aF (fun o=>HB.out.alloc (Nat.le_of_lt hlw) o);clear y;go_wp2_with fail
     go_roundw
     case rel=>
      refine ⟨k+1,_,by omega,by go_num,rfl,aF (HCC2.out _),aF (HB2.out _),by simp;omega,aF (fun hS=>?_)⟩;have h1:=HR.out hS;have h2:=HST.out;have h3:=hS.typs;try unfold wrap64
      omega
     case measure=>simp [intOf];omega
    ·have HR2:Hid (ShortB b->((z3 b 0:Nat):Int)<=m/\m<=1200000000):=aF (fun hS=>by
      have h1:=HR.out hS;have h3:=hS.typs;have h4:k=b.types.length:=(by omega);rw [xED,<- h4]
      omega)
     obtain ⟨y0,y1,y2,y3,y4,y5,y6⟩:=aS HCC.out;clear HR;go_wp2_with fail
     clear hlt hk;clear y0 y1 y2 y3 y4 y5 y6;go_loopw [3,54] (fun v i wr=>∃(k:Nat) (m:Int),k<=b.locals.length/\i = .int .i64 k/\v = .int .i64 m/\Hid (aA (bdM b A1 c1 A2 c2 A3 c3 A4 c4 A5 c5 []) wr w.heap.size)/\Hid (Below w.heap.size w wr)/\w.heap.size<wr.heap.size/\Hid (ShortB b->((z3 b k:Nat):Int)<=m/\m<=1200000000+9001 * k)) (fun _ i _=>b.locals.length - (intOf i).toNat)
     case atStart=>exact ⟨0,m,by omega,rfl,rfl,HCC,HB,hlw,aF (fun hS=>by have:=HR2.out hS;omega)⟩
     case round=>
      clear HCC HB hlw HR2;obtain ⟨k,m,hk,rfl,rfl,HCC,HB,hlw,HR⟩:=hrel;by_cases hlt:k<b.locals.length
      ·have HST:=aF (xEE b k hlt);have hzs:=HZ.out.locs _ (bN hlt);obtain ⟨b5,o5,rfl,hb5,y⟩:=HH.out.loc.sl.at_ hlt;obtain ⟨p0,p1⟩:=RLc.keeps _ _ _ w.heap.size _ _ _ (aY _) hb5 HB.out y;generalize b.locals[k]=x at *;have HCC2:=aF (fun o i v hi=>cM (alF wr o) (HCC.out i v hi));have HB2:=aF (fun o=>HB.out.alloc (Nat.le_of_lt hlw) o);clear y;go_wp2_with fail
       go_roundw
       case rel=>
        refine ⟨k+1,_,by omega,by go_num,rfl,aF (HCC2.out _),aF (HB2.out _),by simp;omega,aF (fun hS=>?_)⟩;have h1:=HR.out hS;have h2:=HST.out;have h3:=hS.locs;try unfold wrap64
        omega
       case measure=>simp [intOf];omega
      ·have HR2:Hid (ShortB b->((z4 b 0:Nat):Int)<=m):=aF (fun hS=>by
        have h1:=HR.out hS;have h4:k=b.locals.length:=(by omega);rw [xEB,<- h4]
        omega)
       obtain ⟨y0,y1,y2,y3,y4,y5,y6⟩:=aS HCC.out;clear HR;by_cases hm:3000<m
       ·go_wp2_with fail
        go_ret;exact ⟨⟨1,rfl,fun h=>absurd h (by omega)⟩,HB.out⟩
       go_wp2_with fail
       clear hlt hk;clear y0 y1 y2 y3 y4 y5 y6;go_loopw [3,71] (fun v i wr=>∃(k:Nat) (m:Int),k<=b.blocks.length/\i = .int .i64 k/\v = .int .i64 m/\Hid (aA (bdM b A1 c1 A2 c2 A3 c3 A4 c4 A5 c5 []) wr w.heap.size)/\Hid (Below w.heap.size w wr)/\w.heap.size<wr.heap.size/\Hid (ShortB b->((z4 b k:Nat):Int)<=m/\m<=23000)) (fun _ i _=>b.blocks.length - (intOf i).toNat)
       case atStart=>exact ⟨0,m,by omega,rfl,rfl,HCC,HB,hlw,aF (fun hS=>by have:=HR2.out hS;omega)⟩
       case round=>
        clear HCC HB hlw HR2 hm;obtain ⟨k,m,hk,rfl,rfl,HCC,HB,hlw,HR⟩:=hrel;by_cases hlt:k<b.blocks.length
        ·have HST:=aF (xEC b k hlt);have hzs:=HZ.out.blks _ (bN hlt);have HSB:=aF (fun (hS:ShortB b)=>hS.blks _ (bN hlt));obtain ⟨b5,o5,rfl,hb5,y⟩:=HH.out.blk.sl.at_ hlt;generalize b.blocks[k]=x at *;obtain ⟨B1,d1,B2,d2,B3,d3,B4,d4,p0,p1,p2,p3,p4,p5,p6,hs1,hs2,hs3,hs4⟩:=hH y;have HS1:=aF hs1;have HS3:=aF (fun W hb=>nF x.term.args B3 d3 W (hs3.keep ROp.keeps hb));have q1:=hs1.le;have q2:=hs1.big;have q3:=hs2.le;have q4:=hs2.big;have q5:=hs4.le;have q6:=hs4.big;replace p0:=cM HB.out p0;replace p1:=cM HB.out p1;replace p2:=cM HB.out p2;replace p3:=cM HB.out p3;replace p4:=cM HB.out p4;replace p5:=cM HB.out p5;replace p6:=cM HB.out p6;clear y hs1 hs2 hs3 hs4;have HBK:=aF (cU wr (bkL x B1 d1 B2 d2 B3 d3 B4 d4) 64);have HCC2:=aF (fun i v hi=>cM (alF wr (.cells (bkL x B1 d1 B2 d2 B3 d3 B4 d4).toArray 64)) (HCC.out i v hi));have HB2:=aF (HB.out.alloc (Nat.le_of_lt hlw) (.cells (bkL x B1 d1 B2 d2 B3 d3 B4 d4).toArray 64));obtain ⟨gx,hgx⟩:∃g,wr.heap.size=g:=⟨_,rfl⟩;have HGX:=aF hgx;have hgl:w.heap.size<gx:=(by omega);obtain ⟨m2,hm2⟩:∃m2,wrap64 (m+wrap64 (wrap64 (wrap64 (wrap64 (1+(x.stmts.length:Int))+(x.term.targets.length:Int))+(x.term.place.proj.length:Int))+min (x.term.name.size:Int) 9000))=m2:=⟨_,rfl⟩
         have HR2:Hid (ShortB b->((z4 b (k+1):Nat):Int)<=m2):=aF (fun hS=>by
          have h1:=HR.out hS;have h2:=HST.out;obtain ⟨g1,g2,g3,_⟩:=HSB.out hS;rw [<- hm2,xHE (by omega) (by omega) (by omega) (by omega) (by omega)]
          omega)
         by_cases h3:3000<m2
         ·go_wp2_with fail
          go_ret;exact ⟨⟨1,rfl,fun h=>absurd h (by omega)⟩,HB2.out⟩
         go_wp2_with fail
         clear p0 p1 p2 p3 p4 p5 p6 hm2;go_loopw [3,103] (fun v i wr2=>∃(j:Nat) (m:Int),j<=x.stmts.length/\i = .int .i64 j/\v = .int .i64 m/\m<=3000/\Hid (aA (bdM b A1 c1 A2 c2 A3 c3 A4 c4 (some ⟨b5,o5,none⟩) c5 []) wr2 w.heap.size)/\Hid (aA (bkL x B1 d1 B2 d2 B3 d3 B4 d4) wr2 gx)/\Hid (Below w.heap.size w wr2)/\gx<wr2.heap.size/\Hid (ShortB b->((z4 b (k+1):Nat):Int)<=m)) (fun _ i _=>x.stmts.length - (intOf i).toNat)
         case atStart=>exact ⟨0,m2,by omega,rfl,rfl,by omega,HCC2,aF (by rw [<- HGX.out];exact HBK.out),HB2,by rw [<- HGX.out];simp,HR2⟩
         case round=>
          clear HCC2 HBK HB2 HR2 h3 HCC HB HR;obtain ⟨j,m,hj,rfl,rfl,hm,HCC,HBK,HB,hgw,HR⟩:=hrel;have hlw:w.heap.size<wr.heap.size:=(by omega);by_cases hjl:j<x.stmts.length
          ·have HSM:=aF (fun (hS:ShortB b)=>(HSB.out hS).2.2.2 _ (bN hjl));obtain ⟨b3,o3,rfl,hb3,hy⟩:=HS1.out.sl.at_ hjl;generalize x.stmts[j]=s at *;obtain ⟨C0,e0,C1,e1,C2,e2,n0,n1,n2,n3,n4,n5,n6,n7,n8,n9,n10,hp0,hp,hl⟩:=iV hy;have f1:=hp0.le;have f2:=hp0.big;have f3:=hp.le;have f4:=hp.big;have HOP:=aF (fun W hb=>nF s.rv.args C2 e2 W (hl.keep ROp.keeps hb));replace n0:=cM HB.out n0;replace n1:=cM HB.out n1;replace n2:=cM HB.out n2;replace n3:=cM HB.out n3;replace n4:=cM HB.out n4;replace n5:=cM HB.out n5;replace n6:=cM HB.out n6;replace n7:=cM HB.out n7;replace n8:=cM HB.out n8;replace n9:=cM HB.out n9;replace n10:=cM HB.out n10;clear hy hp0 hp hl;obtain ⟨W1,hW1⟩:∃W1,wr.alloc (.cells #[Value.int .i64 s.kind,.int .i64 s.place.loc,.slice C0 s.place.proj.length e0,.int .i64 s.rv.kind,.int .i64 s.rv.op,.int .i64 s.rv.reg,.bool s.rv.mu,.int .i64 s.rv.place.loc,.slice C1 s.rv.place.proj.length e1,.slice C2 s.rv.args.length e2,.int .i64 s.loc] 87)=W1:=⟨_,rfl⟩;have hST:∀i v,(stC s C0 e0 C1 e1 C2 e2)[i]?=some v->W1.cell? ⟨wr.heap.size,i,none⟩=some v:=by rw [<- hW1];exact cU wr (stC s C0 e0 C1 e1 C2 e2) 87
           have hb1:Below wr.heap.size wr W1:=by rw [<- hW1];exact alF _ _
           have hb1d:Below wr.heap.size wr W1.drew:=hb1.drew;have HS0:Hid ((aA (stC s C0 e0 C1 e1 C2 e2) W1.drew wr.heap.size)/\(aA (bdM b A1 c1 A2 c2 A3 c3 A4 c4 (some ⟨b5,o5,none⟩) c5 []) W1.drew w.heap.size)/\(aA (bkL x (some ⟨b3,o3,none⟩) d1 B2 d2 B3 d3 B4 d4) W1.drew gx)/\Below w.heap.size w W1.drew):=aF ⟨hST,cN HCC.out hb1d,cN HBK.out hb1d,keep0 hb1d HB.out⟩;have hsz1:gx<W1.heap.size:=bO hgw hb1.size;clear hST hb1 hb1d;go_wp2_with fail
           clear n0 n1 n2 n3 n4 n5 n6 n7 n8 n9 n10;have hS:=HS0.out;refine cO (S:=fun X=>(aA (stC s C0 e0 C1 e1 C2 e2) X wr.heap.size)/\(aA (bdM b A1 c1 A2 c2 A3 c3 A4 c4 (some ⟨b5,o5,none⟩) c5 []) X w.heap.size)/\(aA (bkL x (some ⟨b3,o3,none⟩) d1 B2 d2 B3 d3 B4 d4) X gx)/\Below w.heap.size w X) [0,1,2,3,4,5,6,7,8,9,10,11,12,13,14,15,16,17] (by kernel_rfl) ?_;(iterate 14 (refine cP (v:=?_) ?_ hS ?_;rotate_left;(next=>(rintro X ⟨hX,_,_,_⟩;obtain ⟨-,-,s2,-,-,-,-,-,s8,s9⟩:=aV hX;(try simp only [aI]);go_simp;rfl));simp only [aM]));(refine cS (fun K1 hK1=>?_);simp only [aM];rw [bA (by rfl)];go_simp);refine (HOP.out _ hS.2.2.2).mono ?_;rintro e' w5 ⟨⟨q,rfl,hq0,hq1⟩,hb5⟩;replace hS:=bJ (cN hS.1 hb5) (bJ (cN hS.2.1 hb5) (bJ (cN hS.2.2.1 hb5) (hS.2.2.2.trans (hb5.mono hS.2.2.2.size))));have HS5:=aF hS;have hsz7:gx<w5.heap.size:=bO hsz1 hb5.size;clear hb5;refine hK1.out _ _ (fun _=>hS) ?_;clear hK1;(iterate 3 (refine cP (v:=?_) ?_ hS ?_;rotate_left;(next=>(rintro X -;(try simp only [aI]);go_simp;rfl));simp only [aM]));refine cZ ?_;clear hS;obtain ⟨m3,hm3⟩:∃m3,IntKind.i64.wrap (m+IntKind.i64.wrap (IntKind.i64.wrap ((s.place.proj.length:Int)+(s.rv.place.proj.length:Int))+q))=m3:=⟨_,rfl⟩
           have hm4:wrap64 (m+wrap64 (wrap64 ((s.place.proj.length:Int)+(s.rv.place.proj.length:Int))+q))=m3:=by
            rw [<- IntWalk.i64_left,<- IntWalk.i64_left,<- IntWalk.i64_left];exact hm3
           have HR3:Hid (ShortB b->((z4 b (k+1):Nat):Int)<=m3):=aF (fun hS=>by
            have h1:=HR.out hS;obtain ⟨g1,g2⟩:=HSM.out hS;rw [<- hm4,xHD (by omega) (by omega) (by omega) (by omega)]
            omega)
           clear hm4;by_cases h3:3000<m3
           ·go_wp2_with fail
            go_ret;exact ⟨⟨1,rfl,fun h=>absurd h (by omega)⟩,HS5.out.2.2.2⟩
           go_wp2_with fail
           go_roundw
           case rel=>exact ⟨j+1,m3,by omega,by go_num,congrArg (Value.int .i64) hm3,by omega,aF HS5.out.2.1,aF HS5.out.2.2.1,aF HS5.out.2.2.2,hsz7,HR3⟩
           case measure=>simp [intOf];omega
          ·obtain ⟨y0,y1,y2,y3,y4,y5,y6⟩:=aS HCC.out;have k3:=HBK.out 3 _ rfl;go_wp2_with (go_at_call 64;refine (HS3.out _ HB.out).mono ?_;rintro e' w5 ⟨⟨q,rfl,hq0,hq1⟩,hb5⟩;have HB7:=aF (HB.out.trans (hb5.mono HB.out.size));have HC7:=aF (cN HCC.out hb5);have hsz7:=hb5.size;clear hb5)
           go_roundw
           case rel=>
            refine ⟨k+1,_,by omega,by go_num,rfl,HC7,HB7,by omega,aF (fun hS=>?_)⟩;have h1:=HR.out hS;try unfold wrap64
            omega
           case measure=>simp [intOf];omega
        ·have HZF:Hid (ShortB b->((namesZ b:Nat):Int)<=m):=aF (fun hS=>by
          have h1:=HR.out hS;have h4:k=b.blocks.length:=(by omega);rw [<- xGX,<- h4]
          omega)
         clear HR;by_cases h3:3000<m
         ·go_wp2_with fail
          go_ret;exact ⟨⟨1,rfl,fun h=>absurd h (by omega)⟩,HB.out⟩
         ·go_wp2_with fail
          go_ret;exact ⟨⟨0,rfl,fun _ hS=>by have:=HZF.out hS;omega⟩,HB.out⟩
theorem oV {b:Bdy} (h:chkB b=0):declC b=0:=by
 unfold chkB at h;by_cases h0:declC b=0
 ·exact h0
 ·rw [aZ h0] at h;exact absurd h h0
theorem sC {b:Bdy}:∀{l:List Blk},bksE b l=0->∀x∈l,bkE b x=0
 | [],_=>by simp
 | y :: r,h=>by
   rw [bksE] at h;by_cases he:bkE b y=0
   ·rw [bA he] at h;intro x hx;rcases List.mem_cons.1 hx with rfl | hx
    ·exact he
    ·exact sC h x hx
   ·rw [aZ he] at h;exact absurd h he
theorem qY {b:Bdy}:∀{l:List Stm},stsE b l=0->∀x∈l,stE b x=0
 | [],_=>by simp
 | y :: r,h=>by
   rw [stsE] at h;by_cases he:stE b y=0
   ·rw [bA he] at h;intro x hx;rcases List.mem_cons.1 hx with rfl | hx
    ·exact he
    ·exact qY h x hx
   ·rw [aZ he] at h;exact absurd h he
theorem uF {b:Bdy} {x:Blk} (h:bkE b x=0):x.stmts.length<=65535/\stsE b x.stmts=0/\tmE b x.term=0:=by
 unfold bkE at h;by_cases h1:65535<x.stmts.length
 ·rw [bA h1] at h;cases h
 rw [aZ h1] at h;by_cases h2:stsE b x.stmts=0
 ·rw [aZ (by simp [h2])] at h;exact ⟨by omega,h2,h⟩
 ·rw [bA h2] at h;exact absurd h h2
theorem nS {b:Bdy} {p:Plc} (h:(tyB b p).2=0):p.proj.length<=32:=by
 have hc:=(eK h).1;unfold chk at hc;by_cases h1:p.loc<0
 ·rw [bA h1] at hc;cases hc
 rw [aZ h1] at hc;by_cases h2:32<p.proj.length
 ·rw [bA h2] at hc;cases hc
 ·omega
theorem eZ {p:Plc} (h:zeroP p=true):p.proj.length<=32:=by
 unfold zeroP at h;simp only [bQ,decide_eq_true_eq] at h;omega
theorem oY {b:Bdy} {p:Plc} (h:writE b p=0):p.proj.length<=32:=by
 unfold writE at h;by_cases h1:(tyB b p).2≠0
 ·rw [bA h1] at h;exact absurd h h1
 ·exact nS (by simpa using h1)
theorem xEW {b:Bdy} {r:Rvl} {t:Int} (h:rvE b r t=0):r.place.proj.length<=32:=by
 unfold rvE at h;by_cases h0:r.kind<0\/4<r.kind
 ·rw [bA h0] at h;cases h
 rw [aZ h0] at h;by_cases h1:unusedR r=false
 ·rw [bA h1] at h;cases h
 rw [aZ h1] at h;by_cases hk:r.kind=1
 ·rw [aZ (by omega),bA hk] at h;unfold borE at h;by_cases h2:(tyB b r.place).2≠0
  ·rw [bA h2] at h;exact absurd h h2
  ·exact nS (by simpa using h2)
 ·have h2:unusedR r=true:=by simpa using h1
  unfold unusedR at h2;refine eZ ?_;by_cases k0:r.kind=0
  ·rw [bA k0] at h2;simp only [bQ] at h2;exact h2.1.1.2
  rw [aZ k0,aZ hk] at h2;by_cases k2:r.kind=2
  ·rw [bA k2] at h2;simp only [bQ] at h2;exact h2.1.2
  rw [aZ k2] at h2;by_cases k3:r.kind=3
  ·rw [bA k3] at h2;simp only [bQ] at h2;exact h2.1.2
  rw [aZ k3] at h2;simp only [bQ] at h2;exact h2.1.2
theorem nN {r:Rvl} (h:blankR r=true):r.place.proj.length<=32:=by
 unfold blankR at h;simp only [bQ] at h;exact eZ h.2
theorem xD {b:Bdy} {s:Stm} (h:stE b s=0):s.place.proj.length<=32/\s.rv.place.proj.length<=32:=by
 unfold stE at h;by_cases k0:s.kind=0
 ·rw [bA k0] at h;by_cases h1:s.loc≠0
  ·rw [bA h1] at h;cases h
  rw [aZ h1] at h;by_cases h2:writE b s.place≠0
  ·rw [bA h2] at h;exact absurd h h2
  rw [aZ h2] at h;exact ⟨oY (by simpa using h2),xEW h⟩
 rw [aZ k0] at h;by_cases k1:s.kind=1
 ·rw [bA k1] at h;by_cases h1:zeroP s.place=false\/blankR s.rv=false
  ·rw [bA h1] at h;cases h
  ·exact ⟨eZ (by cases e:zeroP s.place <;> simp_all),nN (by cases e:blankR s.rv <;> simp_all)⟩
 rw [aZ k1] at h;by_cases k2:s.kind=2
 ·rw [bA k2] at h;by_cases h1:zeroP s.place=false\/blankR s.rv=false\/s.loc≠0
  ·rw [bA h1] at h;cases h
  ·exact ⟨eZ (by cases e:zeroP s.place <;> simp_all),nN (by cases e:blankR s.rv <;> simp_all)⟩
 rw [aZ k2] at h;cases h
theorem sK {b:Bdy} {t:Trm} (h:tmE b t=0):t.targets.length<=2/\t.place.proj.length<=32/\(t.kind=3->isIdent t.name=true):=by
 unfold tmE at h;by_cases h0:t.kind<0\/5<t.kind
 ·rw [bA h0] at h;cases h
 rw [aZ h0] at h;by_cases h1:fieldsT t=false
 ·rw [bA h1] at h;cases h
 rw [aZ h1] at h;have h2:fieldsT t=true:=by simpa using h1
 by_cases h3:t.targets.all (fun k=>decide (0<=k/\k<(b.blocks.length:Int)))=false
 ·rw [bA h3] at h;cases h
 rw [aZ h3] at h;unfold fieldsT at h2;by_cases k3:t.kind=3
 ·rw [aZ (by omega),aZ (by omega),bA k3] at h2;rw [aZ (by omega),bA k3] at h;simp only [decide_eq_true_eq] at h2;by_cases g1:isIdent t.name=false
  ·rw [bA g1] at h;cases h
  rw [aZ g1] at h;by_cases g2:65535<t.args.length
  ·rw [bA g2] at h;cases h
  rw [aZ g2] at h;by_cases g3:opsE b t.args []≠0
  ·rw [bA g3] at h;exact absurd h g3
  rw [aZ g3] at h;exact ⟨by omega,oY h,fun _=>by simpa using g1⟩
 by_cases k4:t.kind=4
 ·rw [aZ (by omega),aZ (by omega),aZ k3,bA k4] at h2;rw [aZ (by omega),aZ k3,bA k4] at h;simp only [bQ,decide_eq_true_eq] at h2;by_cases g1:(tyB b t.place).2≠0
  ·rw [bA g1] at h;exact absurd h g1
  ·exact ⟨by omega,nS (by simpa using g1),fun h=>absurd h k3⟩
 refine ⟨?_,?_,fun h=>absurd h k3⟩
 all_goals
  by_cases k0:t.kind=0
  ·rw [bA k0] at h2;simp only [bQ,decide_eq_true_eq] at h2;first | omega | exact eZ h2.1.2
  ·rw [aZ k0] at h2;by_cases k1:t.kind=1
   ·rw [bA k1] at h2;simp only [bQ,decide_eq_true_eq] at h2;first | omega | exact eZ h2.1.2
   ·rw [aZ k1,aZ k3,aZ k4] at h2;simp only [bQ,decide_eq_true_eq] at h2;first | omega | exact eZ h2.1.2
theorem xGS {b:Bdy} (h:chkB b=0):bksE b b.blocks=0:=by
 have hd:=oV h;unfold chkB at h;rwa [bA hd] at h
theorem qQ {b:Bdy} (h:chkB b=0):ShortB b:=by
 have D:=dS (oV h);refine ⟨D.nout,D.nreg,D.ntyp,D.nloc,fun x hx=>?_⟩;obtain ⟨h1,h2,h3⟩:=uF (sC (xGS h) x hx);obtain ⟨t1,t2,-⟩:=sK h3;exact ⟨h1,t1,t2,fun s hs=>xD (qY h2 s hs)⟩
end
end Go.Proofs.YtmknfbfppmkcfaaGreatDoor
