/-
  Parts of the proof: V46 V54 V55 V56 V57 V58 V61.
-/
import Derived.Sort.WalkA
import Derived.Test.YtcfchohkmkilpaaGreatDoorLP0
import Derived.Test.YtcfchohkmkilpaaGreatDoorLP13
import Derived.Test.YtcfchohkmkilpaaGreatDoorLP10
import Derived.Test.YtcfchohkmkilpaaGreatDoorLP9
namespace Go.Proofs.YtcfchohkmkilpaaGreatDoor
set_option maxRecDepth 100000
set_option maxHeartbeats 16000000
section
open Go Go.RowKit Go.Maps
theorem pW {b:Bdy} {bh:BH} {w:World} (H:Rk w b bh) (rv:Rvl) (t:Nat) (ht:t<b.types.length) (A B:Option Addr) (c d:Nat) (hp:Slc 2 RPj w A c rv.place.proj):
 Calls Tryz.prog 129 #[.agg (bdC b bh).toArray,.agg (rvC rv A c B d).toArray,.int .i64 t] w fun e' w'=>e' = .returned (.int .i64 (borE b rv t))/\Below w.heap.size w w':=by
 have HT:=aF (fun W (hb:Below w.heap.size w W)=>eF b bh rv.place A c W (H.keep hb).at_ (hp.keep RPj.keeps hb) H.ok.okay);have HM:=aF (fun W (hb:Below w.heap.size w W)=>jT b bh rv.place A c W (H.keep hb).at_ (hp.keep RPj.keeps hb) H.ok.okay);have HG:=aF (fun W (hb:Below w.heap.size w W)=>nI b.types b.locals rv.place.loc rv.place.proj bh.A3 bh.A4 A bh.c3 bh.c4 c W (H.keep hb).at_.typ (H.keep hb).at_.loc (hp.keep RPj.keeps hb) H.ok.okay);have HO:=aF (fun W (hb:Below w.heap.size w W) (x:Int)=>iK b.outl b.regions.length x rv.reg bh.A2 bh.c2 W (H.keep hb).at_.out H.ok.pairs (by have:=H.ok.nreg;omega));have hbl:=H.at_.reg.le;have hbg:=H.at_.reg.big;obtain ⟨bb,oo,hA3,hbb,hxx⟩:=H.at_.typ.sl.at_ ht;have hle3:=H.at_.typ.le;have hbig3:=H.at_.typ.big;obtain ⟨ty,hty⟩:∃ty,b.types[t]=ty:=⟨_,rfl⟩;rw [hty] at hxx;obtain ⟨q0,q1,q2,q3,A5,c5,q4,-,-,-⟩:=hxx;obtain ⟨R,hR⟩:∃R,borE b rv t=R:=⟨_,rfl⟩;rw [hR]
 have HR:Hid (R=if (tyB b rv.place).2≠0 then (tyB b rv.place).2 else if rv.reg<0\/(b.regions.length:Int)<=rv.reg then 3 else if ty.kind≠3\/ty.reg≠rv.reg\/ty.mu≠rv.mu\/ty.elem≠(tyB b rv.place).1 then 22 else if rv.mu=true/\mutB b rv.place=false then 22 else if ((refsOf b.types b.locals rv.place.loc rv.place.proj).1.map (·.reg)).all (fun x=>outB b.outl b.regions.length x rv.reg)=true then 0 else 22):=aF (by
  rw [<- hR,borE];simp only [bV];rw [bD ht,hty,List.all_map]
  rfl)
 have HLN:Hid (((refsOf b.types b.locals rv.place.loc rv.place.proj).1.map (·.reg)).length=(refsOf b.types b.locals rv.place.loc rv.place.proj).1.length):=aF (cF _);generalize (refsOf b.types b.locals rv.place.loc rv.place.proj).1.length=nl at HLN HG;generalize (refsOf b.types b.locals rv.place.loc rv.place.proj).1.map (·.reg)=rs at HG HR HLN;generalize tyB b rv.place=q at HT HR;generalize mutB b rv.place=mb at HM HR;obtain ⟨ti,te⟩:=q;simp only at HR HT;clear hR hty H hp;unfold bdC at HT HM ⊢;unfold rvC;rw [hA3] at HT HM HG ⊢
 have key:(te≠0/\R=te)\/(te=0/\((rv.reg<0\/(b.regions.length:Int)<=rv.reg)/\R=3\/¬rv.reg<0/\¬(b.regions.length:Int)<=rv.reg/\(((ty.kind != 3)=true\/(ty.kind != 3)=false/\((ty.reg != rv.reg)=true\/(ty.reg != rv.reg)=false/\((ty.mu != rv.mu)=true\/(ty.mu != rv.mu)=false/\(ty.elem != ti)=true)))/\R=22\/((ty.kind != 3)=false/\(ty.reg != rv.reg)=false/\(ty.mu != rv.mu)=false/\(ty.elem != ti)=false)/\(rv.mu=true/\mb=false/\R=22\/(rv.mu=false\/rv.mu=true/\mb=true)/\R=if rs.all (fun x=>outB b.outl b.regions.length x rv.reg)=true then 0 else 22)))):=by
  rw [HR.out];by_cases he:te=0
  ·subst he;refine .inr ⟨rfl,?_⟩;rw [aZ (fun h=>h rfl)];by_cases h0:rv.reg<0\/(b.regions.length:Int)<=rv.reg
   ·exact .inl ⟨h0,bA h0⟩
   ·refine .inr ⟨fun h=>h0 (.inl h),fun h=>h0 (.inr h),?_⟩;rw [aZ h0];simp only [<- bne_iff_ne];generalize (ty.kind != 3)=p1;generalize (ty.reg != rv.reg)=p2;generalize (ty.mu != rv.mu)=p3;generalize (ty.elem != ti)=p4;cases p1 <;> cases p2 <;> cases p3 <;> cases p4 <;> cases rv.mu <;> cases mb <;> simp
  ·exact .inl ⟨he,bA he⟩
 clear HR;obtain ⟨mu,hmu⟩:∃mu,rv.mu=mu:=⟨_,rfl⟩;rw [hmu] at key ⊢;clear hmu;rcases key with ⟨he,hr⟩ | ⟨rfl,⟨h0 | h0,hr⟩ | ⟨h1,h2,⟨p1 | ⟨p1,p2 | ⟨p2,p3 | ⟨p3,p4⟩⟩⟩,hr⟩ | ⟨⟨p1,p2,p3,p4⟩,⟨rfl,rfl,hr⟩ | ⟨rfl | ⟨rfl,rfl⟩,hr⟩⟩⟩⟩
 rotate_left
 all_goals
  have HF:=aF hr;clear hr;try (have e1:(te != 0)=true:=by simp [he];clear he)
  go_enter Tryz.func129,Tryz.ntmps129
  go_wp2_with (first | (go_at_call 92;refine (HT.out _ (bel2 _ _ _)).mono ?_;rintro e' w1 ⟨rfl,hb1⟩;have HB:=aF ((bel2 _ _ _).trans (hb1.mono (bel2 _ _ _).size));obtain ⟨y,z⟩:=cU hb1;have HY:=aF y;have HZ:=aF z;obtain ⟨y0,y1,y2,y3,y4,y5,y6⟩:=aS HY.out;obtain ⟨z0,z1,z2,z3,z4,z5,z6⟩:=aS HZ.out;have v0:=cO HB.out q0;have v1:=cO HB.out q1;have v2:=cO HB.out q2;have v3:=cO HB.out q3;have v4:=cO HB.out q4;have hlw:=hb1.size;simp only [bI] at hlw;have hlw1:w.heap.size+1<w1.heap.size:=hlw;have hlw0:w.heap.size<w1.heap.size:=cC hlw;clear y z hb1) | (go_at_call 93;refine (HM.out _ (HB.out.alloc HB.out.size _)).mono ?_;rintro e' w2 ⟨rfl,hb2⟩;have HB2:=aF ((HB.out.alloc HB.out.size _).trans (hb2.mono (HB.out.alloc HB.out.size _).size));replace HY:=aF (dN HY.out hb2);replace HZ:=aF (dN HZ.out hb2);obtain ⟨y0,y1,y2,y3,y4,y5,y6⟩:=aS HY.out;obtain ⟨z0,z1,z2,z3,z4,z5,z6⟩:=aS HZ.out;have hsz2:=hb2.size;simp only [bI] at hsz2;clear hb2) | (go_at_call 168;refine (HG.out _ HB2.out).mono ?_;rintro e' w3 ⟨A8,c8,rfl,hs8,hb4⟩;have HB3:=aF (HB2.out.trans (hb4.mono HB2.out.size));have HC3:=aF (fun X (hb:Below w3.heap.size w3 X)=>bJ (cO hb (cO hb4 y1)) (bJ (cO hb (cO hb4 y2)) (cO hb (cO hb4 z2))));have HS8:=aF hs8;have hs8l:=hs8.le;have hs8b:=hs8.big;clear hb4 hs8) | (go_at_call 168;refine (HG.out _ (HB.out.alloc HB.out.size _)).mono ?_;rintro e' w3 ⟨A8,c8,rfl,hs8,hb3⟩;have hb4:=((aX w1.heap.size w1).alloc (aY _) _).trans (hb3.mono (by simp));have HB3:=aF (HB.out.trans (hb4.mono HB.out.size));clear hb3;have HC3:=aF (fun X (hb:Below w3.heap.size w3 X)=>bJ (cO hb (cO hb4 y1)) (bJ (cO hb (cO hb4 y2)) (cO hb (cO hb4 z2))));have HS8:=aF hs8;have hs8l:=hs8.le;have hs8b:=hs8.big;clear hb4 hs8))
  all_goals first
   | (exfalso;omega)
   | (go_ret;exact ⟨by rw [HF.out];rfl,by first | exact HB2.out | exact HB.out | exact HB.out.alloc HB.out.size _⟩)
   | (exfalso;simp_all;done)
   | skip
 all_goals
  rw [HLN.out] at hs8l;go_loopw [11] (fun v wr=>∃k:Nat,k<=nl/\v = .int .i64 k/\Hid (Below w3.heap.size w3 wr)/\Hid (R=if (rs.drop k).all (fun x=>outB b.outl b.regions.length x rv.reg)=true then 0 else 22)) (fun v _=>nl - (intOf v).toNat)
  case atStart=>exact ⟨0,by omega,rfl,aF (aX _ _),HF⟩
  case round=>
   clear HF;obtain ⟨k,hk,rfl,HB9,hr⟩:=hrel;have HBR:=aF (HB3.out.trans (HB9.out.mono HB3.out.size));by_cases hlt:k<nl
   ·have hlt2:k<rs.length:=by rw [HLN.out];exact hlt
    have hd:=cV hlt2;obtain ⟨b8,o8,rfl,hb8,hx⟩:=(HS8.out.keep RInt.keeps HB9.out).sl.at_ hlt2;obtain ⟨x,hxx⟩:∃x,rs[k]=x:=⟨_,rfl⟩;rw [hxx] at hx hd;have x0:wr.cell? ⟨b8,o8+k,none⟩=some (.int .i64 x):=(by simpa [RInt] using hx);have HOX:=aF (HO.out wr.drew HBR.out.drew x);have HQX:Hid (R=if outB b.outl b.regions.length x rv.reg=true then (if (rs.drop (k+1)).all (fun x=>outB b.outl b.regions.length x rv.reg)=true then 0 else 22) else 22):=aF (by rw [hr.out,hd,cB];cases outB b.outl b.regions.length x rv.reg <;> rfl);have hS:Below w3.heap.size w3 wr.drew/\wr.drew.cell? ⟨b8,o8+k,none⟩=some (.int .i64 x):=⟨HB9.out.drew,x0⟩;clear hx hd hxx hr hlt2 x0;generalize outB b.outl b.regions.length x rv.reg=ob at HOX HQX;go_wp2_with fail
    refine cT (S:=fun X=>Below w3.heap.size w3 X/\X.cell? ⟨b8,o8+k,none⟩=some (.int .i64 x)) [0,1,2,3,4,5,6,7,8,9,10,11,12] (by kernel_rfl) ?_;(iterate 11 (refine cR (v:=?_) ?_ hS ?_;rotate_left;(next=>(rintro X ⟨hX,sx⟩;obtain ⟨s1,s2,u2⟩:=HC3.out X hX;(try simp only [aI]);go_simp;rfl));simp only [aM]));(refine cY (fun K1 hK1=>?_);simp only [aM];rw [bA (by rfl)];go_simp);refine HOX.out.mono ?_;rintro e' w4 ⟨rfl,hb4⟩;have HB4:=aF (HBR.out.drew.trans (hb4.mono HBR.out.size));have HB5:=aF (HB9.out.drew.trans (hb4.mono HB9.out.size));replace hS:=bJ HB5.out (cO hb4 hS.2);refine hK1.out _ _ (fun _=>hS) ?_;clear hb4 hK1;((refine cR (v:=?_) ?_ hS ?_;rotate_left;(next=>(rintro X -;(try simp only [aI]);go_simp;rfl));simp only [aM]))
    refine cZ ?_;clear hS;cases ob
    ·go_wp2_with fail
     go_ret;exact ⟨by rw [show R=22 from HQX.out];rfl,HB4.out⟩
    ·go_wp2_with fail
     go_roundw
     case rel=>exact ⟨k+1,by omega,by go_num,HB5,HQX⟩
     case measure=>simp [intOf];omega
   ·have HF:Hid (R=0):=aF (by rw [hr.out,bE (by rw [HLN.out];omega:rs.length<=k)];rfl);clear hr;go_wp2_with fail
    go_ret;exact ⟨by rw [HF.out];rfl,HBR.out⟩
def bdT (b:Bdy) (bh:BH) (bb oo:Nat):List Value:=[.string b.name,.slice bh.A1 b.regions.length bh.c1,.slice bh.A2 b.outl.length bh.c2,.slice (some ⟨bb,oo,none⟩) b.types.length bh.c3,.slice bh.A4 b.locals.length bh.c4,.int .i64 b.args,.slice bh.A5 b.blocks.length bh.c5]
def rvL (k o:Int) (rv:Rvl) (A:Option Addr) (c b5 o5 n d:Nat):List Value:=[.int .i64 k,.int .i64 o,.int .i64 rv.reg,.bool rv.mu,.int .i64 rv.place.loc,.slice A rv.place.proj.length c,.slice (some ⟨b5,o5,none⟩) n d]
def tmL (k:Int) (n:Nat) (A:Option Addr) (c:Nat) (B:Option Addr) (m d:Nat) (t:Trm) (C:Option Addr) (f:Nat) (nm:ByteArray):List Value:=[.int .i64 k,.slice A n c,.slice B m d,.int .i64 t.place.loc,.slice C t.place.proj.length f,.string nm]
def arT:List Value:=[.int .i64 1,.int .i64 2,.int .i64 0,.int .i64 1,.int .i64 1,.int .i64 0]
theorem tY {b:Bdy} {bh:BH} {w:World} (rv:Rvl) (t:Nat) (A B:Option Addr) (c d:Nat) (h:shapeE rv≠0):
 Calls Tryz.prog 94 #[.agg (bdC b bh).toArray,.agg (rvC rv A c B d).toArray,.int .i64 t] w fun e' w'=>e' = .returned (.int .i64 (rvE b rv t))/\Below w.heap.size w w':=by
 have HSH:=aF (fun W=>eJ rv A B c d W)
 have HF:Hid (rvE b rv t=shapeE rv):=aF (by
  unfold shapeE at h ⊢;unfold rvE;by_cases h0:rv.kind<0\/4<rv.kind
  ·rw [bA h0,bA h0]
  ·rw [aZ h0] at h;rw [aZ h0,aZ h0];by_cases h1:unusedR rv=false
   ·rw [bA h1,bA h1]
   ·rw [aZ h1] at h
    exact absurd rfl h)
 generalize rvE b rv t=R at HF ⊢;generalize shapeE rv=se at HSH HF h;have e1:(se != 0)=true:=by simp [h]
 clear h;unfold bdC;unfold rvC at *;go_enter Tryz.func94,Tryz.ntmps94
 go_wp2_with (go_at_call 128;refine (HSH.out _).mono ?_;rintro e' w1 ⟨rfl,hb⟩;have HB:=aF ((bel2 _ _ _).trans (hb.mono (bel2 _ _ _).size));obtain ⟨y,z⟩:=cU hb;have HY:=aF y;have HZ:=aF z;obtain ⟨y0,y1,y2,y3,y4,y5,y6⟩:=aS HY.out;obtain ⟨z0,z1,z2,z3,z4,z5,z6⟩:=aS HZ.out;try have q0:=cO HB.out r0;clear y z hb)
 go_ret;exact ⟨by rw [HF.out];rfl,HB.out⟩
theorem jO {rv:Rvl} (h:shapeE rv=0):(0<=rv.kind/\rv.kind<=4)/\unusedR rv=true:=by
 unfold shapeE at h;by_cases h0:rv.kind<0\/4<rv.kind
 ·rw [bA h0] at h;cases h
 rw [aZ h0] at h;by_cases h1:unusedR rv=false
 ·rw [bA h1] at h;cases h
 ·exact ⟨by omega,by simpa using h1⟩
theorem jP {b:Bdy} {rv:Rvl} {t:Nat} (h:shapeE rv=0) (ht:t<b.types.length):rvE b rv t=if rv.kind=0 then opsE b rv.args [(t:Int)] else if rv.kind=1 then borE b rv t else if rv.kind=2 then operE b rv t iD else if rv.kind=3 then operE b rv t gB else if b.types[t].kind≠4\/b.types[t].flds.length≠rv.args.length then 22 else opsE b rv.args b.types[t].flds:=by
 obtain ⟨h1,h2⟩:=jO h;unfold rvE;rw [aZ (by omega),aZ (by rw [h2];simp)];simp only [bV];rw [bD ht]
theorem zW {b:Bdy} {bh:BH} {w:World} (H:Rk w b bh) (rv:Rvl) (t:Nat) (ht:t<b.types.length) (A B:Option Addr) (c d:Nat) (hp:Slc 2 RPj w A c rv.place.proj) (h:shapeE rv=0) (hk:rv.kind=1):
 Calls Tryz.prog 94 #[.agg (bdC b bh).toArray,.agg (rvC rv A c B d).toArray,.int .i64 t] w fun e' w'=>e' = .returned (.int .i64 (rvE b rv t))/\Below w.heap.size w w':=by
 have HSH:=aF (fun W=>eJ rv A B c d W);have HBO:=aF (fun W (hb:Below w.heap.size w W)=>pW (H.keep hb) rv t ht A B c d (hp.keep RPj.keeps hb));have HF:Hid (rvE b rv t=borE b rv t):=aF (by rw [jP h ht,aZ (by omega),bA hk]);rw [h] at HSH;obtain ⟨bb,oo,hA3,hbb,hx⟩:=H.at_.typ.sl.at_ ht;have hle3:=H.at_.typ.le;have hbig3:=H.at_.typ.big;obtain ⟨r0,-⟩:=hx;generalize rvE b rv t=R at HF ⊢;generalize borE b rv t=be at HBO HF;generalize b.types[t].kind=tk at r0;clear H hp h;unfold bdC at *;unfold rvC at *;rw [hA3] at HBO ⊢;rw [hk] at HSH HBO ⊢;go_enter Tryz.func94,Tryz.ntmps94
 go_wp2_with (first | (go_at_call 128;refine (HSH.out _).mono ?_;rintro e' w1 ⟨rfl,hb⟩;have HB:=aF ((bel2 _ _ _).trans (hb.mono (bel2 _ _ _).size));obtain ⟨y,z⟩:=cU hb;have HY:=aF y;have HZ:=aF z;obtain ⟨y0,y1,y2,y3,y4,y5,y6⟩:=aS HY.out;obtain ⟨z0,z1,z2,z3,z4,z5,z6⟩:=aS HZ.out;try have q0:=cO HB.out r0;clear y z hb) | (go_at_call 129;refine (HBO.out _ HB.out).mono ?_;rintro e' w2 ⟨rfl,hb⟩;have HB2:=aF (HB.out.trans (hb.mono HB.out.size));clear hb))
 go_ret;exact ⟨by rw [HF.out];rfl,HB2.out⟩
theorem lG {b:Bdy} {bh:BH} {w:World} (H:Rk w b bh) (rv:Rvl) (t:Nat) (ht:t<b.types.length) (A B:Option Addr) (c d:Nat) (h:shapeE rv=0) (hk:(rv.kind=2/\(rv.op<0\/1<rv.op))\/(rv.kind=3/\(rv.op<0\/5<rv.op))):
 Calls Tryz.prog 94 #[.agg (bdC b bh).toArray,.agg (rvC rv A c B d).toArray,.int .i64 t] w fun e' w'=>e' = .returned (.int .i64 (rvE b rv t))/\Below w.heap.size w w':=by
 have HSH:=aF (fun W=>eJ rv A B c d W)
 have HF:Hid (rvE b rv t=14):=aF (by
  rw [jP h ht];rcases hk with ⟨h2,h3⟩ | ⟨h2,h3⟩
  ·rw [aZ (by omega),aZ (by omega),bA h2,operE,bA (by simp [iD];omega)]
  ·rw [aZ (by omega),aZ (by omega),aZ (by omega),bA h2,operE,bA (by simp [gB];omega)])
 rw [h] at HSH;obtain ⟨bb,oo,hA3,hbb,hx⟩:=H.at_.typ.sl.at_ ht;have hle3:=H.at_.typ.le;have hbig3:=H.at_.typ.big;obtain ⟨r0,-⟩:=hx;generalize rvE b rv t=R at HF ⊢;generalize b.types[t].kind=tk at r0;clear H h;unfold bdC at *;unfold rvC at *;rw [hA3];rcases hk with ⟨h2,h3 | h3⟩ | ⟨h2,h3 | h3⟩
 all_goals
  rw [h2] at HSH ⊢;go_enter Tryz.func94,Tryz.ntmps94
  go_wp2_with (go_at_call 128;refine (HSH.out _).mono ?_;rintro e' w1 ⟨rfl,hb⟩;have HB:=aF ((bel2 _ _ _).trans (hb.mono (bel2 _ _ _).size));obtain ⟨y,z⟩:=cU hb;have HY:=aF y;have HZ:=aF z;obtain ⟨y0,y1,y2,y3,y4,y5,y6⟩:=aS HY.out;obtain ⟨z0,z1,z2,z3,z4,z5,z6⟩:=aS HZ.out;try have q0:=cO HB.out r0;clear y z hb)
  all_goals first
   | (exfalso;omega)
   | (go_ret;exact ⟨by rw [HF.out];rfl,HB.out⟩)
theorem zU {b:Bdy} {bh:BH} {w:World} (H:Rk w b bh) (rv:Rvl) (t:Nat) (ht:t<b.types.length) (A B:Option Addr) (c d:Nat) (hl:Slc 4 ROp w B d rv.args) (h:shapeE rv=0) (hk:rv.kind=0):
 Calls Tryz.prog 94 #[.agg (bdC b bh).toArray,.agg (rvC rv A c B d).toArray,.int .i64 t] w fun e' w'=>e' = .returned (.int .i64 (rvE b rv t))/\Below w.heap.size w w':=by
 have HSH:=aF (fun W=>eJ rv A B c d W);have HOP:=aF (fun W (hb:Below w.heap.size w W) (o:Opd) (A:Option Addr) (c:Nat) (hp:Slc 2 RPj w A c o.place.proj)=>dK (H.keep hb) o A c (hp.keep RPj.keeps hb));have HFT:=aF (fun W (hb:Below w.heap.size w W) (o:Opd) (A:Option Addr) (c:Nat) (hp:Slc 2 RPj w A c o.place.proj) (ho:opE b o=0)=>nM (H.keep hb) o t A c (hp.keep RPj.keeps hb) ho ht)
 have hone:∃o,rv.args=[o]:=by
  have h2:=(jO h).2;unfold unusedR at h2;rw [bA hk] at h2;simp only [bP,decide_eq_true_eq] at h2;exact List.length_eq_one_iff.1 h2.2
 obtain ⟨o,ho⟩:=hone
 have HF0:Hid (rvE b rv t=if opE b o=0 then (if fitsO b o t=true then 0 else 22) else opE b o):=aF (by
  rw [jP h ht,bA hk,ho];by_cases he:opE b o=0
  ·rw [kB he,dJ,bA he]
  ·rw [eY he,aZ he])
 rw [h] at HSH;obtain ⟨bb,oo,hA3,hbb,hx⟩:=H.at_.typ.sl.at_ ht;have hle3:=H.at_.typ.le;have hbig3:=H.at_.typ.big;obtain ⟨r0,-⟩:=hx;have hle:=hl.le;have hbig:=hl.big;have hn0:0<rv.args.length:=by rw [ho];simp
 obtain ⟨b5,o5,rfl,hb5,hxo⟩:=hl.sl.at_ hn0;simp only [ho,List.getElem_cons_zero,Nat.zero_mul,Nat.add_zero] at hxo;obtain ⟨p0,⟨p1,A2,c2,p2,hc1,hc2,hsl⟩,p3⟩:=hxo;have HPJ:Hid (Slc 2 RPj w A2 c2 o.place.proj):=aF ⟨hsl,hc1,hc2⟩;have P0:=aF p0;have P1:=aF p1;have P2:=aF (show w.cell? ⟨b5,o5+2,none⟩=_ from p2);have P3:=aF p3;generalize rvE b rv t=R at HF0 ⊢;generalize b.types[t].kind=tk at r0;have hn1:rv.args.length=1:=by rw [ho];rfl
 have HOO:=aF (fun W hb=>HOP.out W hb o A2 c2 HPJ.out);have HFF:=aF (fun W hb he=>HFT.out W hb o A2 c2 HPJ.out he);clear H h hl p0 p1 p2 p3 hsl hc1 hc2 ho HOP HFT;unfold bdC at *;unfold rvC at *;unfold opC at *;rw [hA3] at HOO HFF ⊢;rw [hk,hn1] at HSH ⊢;rw [hn1] at hle hn0;generalize fitsO b o t=ft at HFF HF0;generalize opE b o=eo at HOO HFF HF0;go_enter Tryz.func94,Tryz.ntmps94
 go_wp2_with (go_at_call 128;refine (HSH.out _).mono ?_;rintro e' w1 ⟨rfl,hb⟩;have HB:=aF ((bel2 _ _ _).trans (hb.mono (bel2 _ _ _).size));obtain ⟨y,z⟩:=cU hb;have HY:=aF y;have HZ:=aF z;obtain ⟨y0,y1,y2,y3,y4,y5,y6⟩:=aS HY.out;obtain ⟨z0,z1,z2,z3,z4,z5,z6⟩:=aS HZ.out;try have q0:=cO HB.out r0;clear y z hb)
 go_quiet (fail)
 all_goals go_wp2_with fail
 go_loopw [9] (fun v wr=>∃j:Nat,j<=1/\v = .int .i64 j/\Hid (aA (bdT b bh bb oo) wr w.heap.size)/\Hid (aA (rvL 0 rv.op rv A c b5 o5 1 d) wr (w.heap.size+1))/\Hid (Below w.heap.size w wr)/\Hid (j=1->eo=0)) (fun v _=>1 - (intOf v).toNat)
 case atStart=>exact ⟨0,by omega,rfl,aF HY.out,aF HZ.out,aF (aG HB.out _),aF (fun h=>absurd h (by omega))⟩
 case round=>
  clear HY HZ HB y0 y1 y2 y3 y4 y5 y6 z0 z1 z2 z3 z4 z5 z6;obtain ⟨j,hj,rfl,HY,HZ,HB,HJ⟩:=hrel;have z6:=HZ.out 6 _ rfl;have z0:=HZ.out 0 _ rfl;by_cases hlt:j<1
  ·obtain rfl:j=0:=by omega
   clear hlt hj HJ;go_wp2_with fail
   have hS:aB w (bdT b bh bb oo) (rvL 0 rv.op rv A c b5 o5 1 d) wr.drew:=⟨HY.out,HZ.out,HB.out.drew⟩;clear z0 z6;refine cT (S:=fun X=>aB w (bdT b bh bb oo) (rvL 0 rv.op rv A c b5 o5 1 d) X) [0,1,2,3,4,5,6,7] (by kernel_rfl) ?_;(iterate 6 (refine cR (v:=?_) ?_ hS ?_;rotate_left;(next=>(rintro X ⟨hX,hY,hZ⟩;obtain ⟨s0,s1,s2,s3,s4,s5,s6⟩:=aS hX;have u6:=hY 6 _ rfl;have u0:=hY 0 _ rfl;have p0:=cO hZ P0.out;have p1:=cO hZ P1.out;have p2:=cO hZ P2.out;have p3:=cO hZ P3.out;(try simp only [aI]);go_simp;rfl));simp only [aM]));(refine cY (fun K1 hK1=>?_);simp only [aM];rw [bA (by rfl)];go_simp);refine (HOO.out _ hS.2.2).mono ?_;rintro e' w2 ⟨rfl,hb⟩;replace hS:=bJ (cP hS.1 hb) (bJ (cP hS.2.1 hb) (hS.2.2.trans (hb.mono hS.2.2.size)));have HS2:=aF hS;clear hb;refine hK1.out _ _ (fun _=>hS) ?_;clear hK1;((refine cR (v:=?_) ?_ hS ?_;rotate_left;(next=>(rintro X -;(try simp only [aI]);go_simp;rfl));simp only [aM]))
   refine cZ ?_;clear hS;by_cases he:eo=0
   ·have HE:=aF he;subst he;go_wp2_with fail
    have hS:aB w (bdT b bh bb oo) (rvL 0 rv.op rv A c b5 o5 1 d) w2.drew:=⟨HS2.out.1,HS2.out.2.1,HS2.out.2.2.drew⟩;refine cT (S:=fun X=>aB w (bdT b bh bb oo) (rvL 0 rv.op rv A c b5 o5 1 d) X) [0,1,2,3,4,5,6,7,8,9,10,11,12,13,14,15,16,17,18,19,20,21] (by kernel_rfl) ?_;(iterate 4 (refine cR (v:=?_) ?_ hS ?_;rotate_left;(next=>(rintro X ⟨hX,hY,hZ⟩;obtain ⟨s0,s1,s2,s3,s4,s5,s6⟩:=aS hX;have u6:=hY 6 _ rfl;have u0:=hY 0 _ rfl;have p0:=cO hZ P0.out;have p1:=cO hZ P1.out;have p2:=cO hZ P2.out;have p3:=cO hZ P3.out;(try simp only [aI]);go_simp;rfl));simp only [aM]));(iterate 17 (refine dA (v:=undef) (by kernel_rfl) (fun _ _ _ h=>h) (Or.inr ⟨by rfl,rfl⟩) hS ?_;simp only [aM]));((refine cR (v:=?_) ?_ hS ?_;rotate_left;(next=>(rintro X -;(try simp only [aI]);go_simp;rfl));simp only [aM]))
    refine cZ ?_;clear hS;go_wp2_with fail
    go_roundw
    case rel=>exact ⟨1,by omega,by go_num,aF HS2.out.1,aF HS2.out.2.1,aF HS2.out.2.2.drew,aF (fun _=>by first | rfl | trivial)⟩
    case measure=>simp [intOf]
   ·have HF:Hid (R=eo):=aF (by rw [HF0.out,aZ he]);have e1:(eo != 0)=true:=by simp [he]
    clear he HF0;go_wp2_with fail
    go_ret;exact ⟨by rw [HF.out];rfl,HS2.out.2.2⟩
  ·obtain rfl:j=1:=by omega
   have HE:=HJ.out rfl;have HFK:=aF (fun W hb=>HFF.out W hb HE);have HF:Hid (R=if ft=true then 0 else 22):=aF (by rw [HF0.out,bA HE]);clear HE HJ HFF HF0 hlt hj;go_wp2_with fail
   have hS:aB w (bdT b bh bb oo) (rvL 0 rv.op rv A c b5 o5 1 d) wr.drew:=⟨HY.out,HZ.out,HB.out.drew⟩;clear z0 z6;refine cT (S:=fun X=>aB w (bdT b bh bb oo) (rvL 0 rv.op rv A c b5 o5 1 d) X) [0,1,2,3,4,5,6,7] (by kernel_rfl) ?_;(iterate 6 (refine cR (v:=?_) ?_ hS ?_;rotate_left;(next=>(rintro X ⟨hX,hY,hZ⟩;obtain ⟨s0,s1,s2,s3,s4,s5,s6⟩:=aS hX;have u6:=hY 6 _ rfl;have u0:=hY 0 _ rfl;have p0:=cO hZ P0.out;have p1:=cO hZ P1.out;have p2:=cO hZ P2.out;have p3:=cO hZ P3.out;(try simp only [aI]);go_simp;rfl));simp only [aM]));(refine cY (fun K1 hK1=>?_);simp only [aM];rw [bA (by rfl)];go_simp);refine (HFK.out _ hS.2.2).mono ?_;rintro e' w2 ⟨rfl,hb⟩;replace hS:=bJ (cP hS.1 hb) (bJ (cP hS.2.1 hb) (hS.2.2.trans (hb.mono hS.2.2.size)));have HS2:=aF hS;clear hb;refine hK1.out _ _ (fun _=>hS) ?_;clear hK1;((refine cR (v:=?_) ?_ hS ?_;rotate_left;(next=>(rintro X -;(try simp only [aI]);go_simp;rfl));simp only [aM]))
   refine cZ ?_;clear hS;cases ft
   all_goals
    go_wp2_with fail
    go_ret;exact ⟨by rw [HF.out];rfl,HS2.out.2.2⟩
theorem zV {b:Bdy} {bh:BH} {w:World} (H:Rk w b bh) (rv:Rvl) (t:Nat) (ht:t<b.types.length) (A B:Option Addr) (c d:Nat) (hl:Slc 4 ROp w B d rv.args) (h:shapeE rv=0) (hk:rv.kind=4)
 (h4:b.types[t].kind=4) (hln:b.types[t].flds.length=rv.args.length) (hpos:0<rv.args.length):
 Calls Tryz.prog 94 #[.agg (bdC b bh).toArray,.agg (rvC rv A c B d).toArray,.int .i64 t] w fun e' w'=>e' = .returned (.int .i64 (rvE b rv t))/\Below w.heap.size w w':=by
 have HSH:=aF (fun W=>eJ rv A B c d W);have HOP:=aF (fun W (hb:Below w.heap.size w W) (o:Opd) (A:Option Addr) (c:Nat) (hp:Slc 2 RPj w A c o.place.proj)=>dK (H.keep hb) o A c (hp.keep RPj.keeps hb));have HFT:=aF (fun W (hb:Below w.heap.size w W) (o:Opd) (A:Option Addr) (c:Nat) (hp:Slc 2 RPj w A c o.place.proj) (ho:opE b o=0) (f:Nat) (hf:f<b.types.length)=>nM (H.keep hb) o f A c (hp.keep RPj.keeps hb) ho hf);have hgd:=(H.ok.tyok t ht).2
 have HF0:Hid (rvE b rv t=opsE b (rv.args.drop 0) (b.types[t].flds.drop 0)):=aF (by
  rw [jP h ht,aZ (by omega),aZ (by omega),aZ (by omega),aZ (by omega),aZ (by simp [h4,hln]),bW,bW])
 rw [h] at HSH;obtain ⟨bb,oo,hA3,hbb,hx⟩:=H.at_.typ.sl.at_ ht;have hle3:=H.at_.typ.le;have hbig3:=H.at_.typ.big;obtain ⟨ty,hty⟩:∃ty,b.types[t]=ty:=⟨_,rfl⟩;rw [hty] at hx h4 hln HF0 hgd;obtain ⟨r0,r1,r2,r3,A5,c5,r4,r6,r7,r8⟩:=hx;have HFL:Hid (Slc 1 RInt w A5 c5 ty.flds):=aF ⟨r8,r6,r7⟩;have hle:=hl.le;have hbig:=hl.big;obtain ⟨b5,o5,rfl,hb5,-⟩:=hl.sl.at_ hpos;obtain ⟨b6,o6,rfl,hb6,-⟩:=HFL.out.sl.at_ (show 0<ty.flds.length by omega);have HL:=aF hl;obtain ⟨n,hn⟩:∃n,rv.args.length=n:=⟨_,rfl⟩;have HN:=aF hn;have HN2:=aF (hln.trans hn);rw [hln,hn] at r4 r6;rw [h4] at r0;have P4:=aF r4;generalize rvE b rv t=R at HF0 ⊢;clear H h hl r1 r2 r3 r8 hty h4 hln;unfold bdC at *;unfold rvC at *;rw [hA3] at HOP HFT ⊢;rw [hn] at hle;rw [hk,hn] at HSH ⊢;clear hn hpos;go_enter Tryz.func94,Tryz.ntmps94
 go_wp2_with (go_at_call 128;refine (HSH.out _).mono ?_;rintro e' w1 ⟨rfl,hb⟩;have HB:=aF ((bel2 _ _ _).trans (hb.mono (bel2 _ _ _).size));obtain ⟨y,z⟩:=cU hb;have HY:=aF y;have HZ:=aF z;obtain ⟨y0,y1,y2,y3,y4,y5,y6⟩:=aS HY.out;obtain ⟨z0,z1,z2,z3,z4,z5,z6⟩:=aS HZ.out;have q0:=cO HB.out r0;have q4:=cO HB.out r4;clear y z hb)
 go_quiet (fail)
 all_goals go_wp2_with fail
 go_loopw [9] (fun v wr=>∃j:Nat,j<=n/\v = .int .i64 j/\Hid (aA (bdT b bh bb oo) wr w.heap.size)/\Hid (aA (rvL 4 rv.op rv A c b5 o5 n d) wr (w.heap.size+1))/\Hid (Below w.heap.size w wr)/\Hid (R=opsE b (rv.args.drop j) (ty.flds.drop j))) (fun v _=>n - (intOf v).toNat)
 case atStart=>exact ⟨0,by omega,rfl,aF HY.out,aF HZ.out,aF (aG HB.out _),HF0⟩
 case round=>
  clear HY HZ HB y0 y1 y2 y3 y4 y5 y6 z0 z1 z2 z3 z4 z5 z6 HF0 q0 q4 r0 r4;obtain ⟨j,hj,rfl,HY,HZ,HB,hr⟩:=hrel;have z6:=HZ.out 6 _ rfl;have z0:=HZ.out 0 _ rfl;by_cases hlt:j<n
  ·have hl1:j<rv.args.length:=by rw [HN.out];exact hlt
   have hl2:j<ty.flds.length:=by rw [HN2.out];exact hlt
   obtain ⟨b7,o7,hB7,hb7,hxo⟩:=HL.out.sl.at_ hl1;obtain ⟨b8,o8,hB8,hb8,hxf⟩:=HFL.out.sl.at_ hl2;simp only [cI,Addr.mk.injEq,and_true] at hB7 hB8;obtain ⟨rfl,rfl⟩:=hB7;obtain ⟨rfl,rfl⟩:=hB8;have hfr:=hgd ty.flds[j] (bM hl2);obtain ⟨f,hff⟩:=bG hfr.1;have HV:Hid (R=opsE b (rv.args[j] :: rv.args.drop (j+1)) ((f:Int) :: ty.flds.drop (j+1))):=aF (by rw [hr.out,cV hl1,cV hl2,hff]);have xf:w.cell? ⟨b6,o6+j,none⟩=some (.int .i64 f):=by rw [<- hff];simpa [RInt] using hxf
   obtain ⟨o,hoo⟩:∃o,rv.args[j]=o:=⟨_,rfl⟩;rw [hoo] at hxo HV;obtain ⟨p0,⟨p1,A2,c2,p2,hc1,hc2,hsl⟩,p3⟩:=hxo;have HPJ:Hid (Slc 2 RPj w A2 c2 o.place.proj):=aF ⟨hsl,hc1,hc2⟩;have P0:=aF p0;have P1:=aF p1;have P2:=aF (show w.cell? ⟨b5,o5+j * 4+2,none⟩=_ from p2);have P3:=aF p3;have PF:=aF xf;have HOO:=aF (fun W hb=>HOP.out W hb o A2 c2 HPJ.out);have HFF:=aF (fun W hb he=>HFT.out W hb o A2 c2 HPJ.out he f (by rw [hff] at hfr;omega));unfold opC at HOO HFF;have HV2:Hid ((opE b o≠0->R=opE b o)/\(opE b o=0->R=if fitsO b o f=true then opsE b (rv.args.drop (j+1)) (ty.flds.drop (j+1)) else 22)):=aF ⟨fun he=>by rw [HV.out,eY he],fun he=>by rw [HV.out,kB he]⟩;generalize fitsO b o f=ft at HFF HV2;generalize opE b o=eo at HOO HFF HV2;clear hr HV hxf hfr hff xf hoo p0 p1 p2 p3 hsl hc1 hc2 hl1 hl2;go_wp2_with fail
   have hS:aB w (bdT b bh bb oo) (rvL 4 rv.op rv A c b5 o5 n d) wr.drew:=⟨HY.out,HZ.out,HB.out.drew⟩;clear z0 z6;refine cT (S:=fun X=>aB w (bdT b bh bb oo) (rvL 4 rv.op rv A c b5 o5 n d) X) [0,1,2,3,4,5,6,7] (by kernel_rfl) ?_;(iterate 6 (refine cR (v:=?_) ?_ hS ?_;rotate_left;(next=>(rintro X ⟨hX,hY,hZ⟩;obtain ⟨s0,s1,s2,s3,s4,s5,s6⟩:=aS hX;have u6:=hY 6 _ rfl;have u0:=hY 0 _ rfl;have p0:=cO hZ P0.out;have p1:=cO hZ P1.out;have p2:=cO hZ P2.out;have p3:=cO hZ P3.out;have t4:=cO hZ P4.out;have g0:=cO hZ PF.out;(try simp only [aI]);go_simp;rfl));simp only [aM]));(refine cY (fun K1 hK1=>?_);simp only [aM];rw [bA (by rfl)];go_simp);refine (HOO.out _ hS.2.2).mono ?_;rintro e' w2 ⟨rfl,hb⟩;replace hS:=bJ (cP hS.1 hb) (bJ (cP hS.2.1 hb) (hS.2.2.trans (hb.mono hS.2.2.size)));have HS2:=aF hS;clear hb;refine hK1.out _ _ (fun _=>hS) ?_;clear hK1;((refine cR (v:=?_) ?_ hS ?_;rotate_left;(next=>(rintro X -;(try simp only [aI]);go_simp;rfl));simp only [aM]))
   refine cZ ?_;clear hS;by_cases he:eo=0
   ·subst he;have HFK:=aF (fun W hb=>HFF.out W hb rfl);have HV3:=aF (HV2.out.2 rfl);clear HV2 HFF;go_wp2_with fail
    have hS:aB w (bdT b bh bb oo) (rvL 4 rv.op rv A c b5 o5 n d) w2.drew:=⟨HS2.out.1,HS2.out.2.1,HS2.out.2.2.drew⟩;refine cT (S:=fun X=>aB w (bdT b bh bb oo) (rvL 4 rv.op rv A c b5 o5 n d) X) [0,1,2,3,4,5,6,7,8,9,10,11,12,13,14,15,16,17,18,19,20,21] (by kernel_rfl) ?_;(iterate 19 (refine cR (v:=?_) ?_ hS ?_;rotate_left;(next=>(rintro X ⟨hX,hY,hZ⟩;obtain ⟨s0,s1,s2,s3,s4,s5,s6⟩:=aS hX;have u6:=hY 6 _ rfl;have u0:=hY 0 _ rfl;have p0:=cO hZ P0.out;have p1:=cO hZ P1.out;have p2:=cO hZ P2.out;have p3:=cO hZ P3.out;have t4:=cO hZ P4.out;have g0:=cO hZ PF.out;(try simp only [aI]);go_simp;rfl));simp only [aM]));(refine cY (fun K1 hK1=>?_);simp only [aM];rw [bA (by rfl)];go_simp);refine (HFK.out _ hS.2.2).mono ?_;rintro e' w3 ⟨rfl,hb⟩;replace hS:=bJ (cP hS.1 hb) (bJ (cP hS.2.1 hb) (hS.2.2.trans (hb.mono hS.2.2.size)));have HS3:=aF hS;clear hb;refine hK1.out _ _ (fun _=>hS) ?_;clear hK1;(iterate 2 (refine cR (v:=?_) ?_ hS ?_;rotate_left;(next=>(rintro X -;(try simp only [aI]);go_simp;rfl));simp only [aM]));refine cZ ?_;clear hS;cases ft
    ·have HF:Hid (R=22):=HV3;go_wp2_with fail
     go_ret;exact ⟨by rw [HF.out];rfl,HS3.out.2.2⟩
    ·have HF:Hid (R=opsE b (rv.args.drop (j+1)) (ty.flds.drop (j+1))):=HV3;go_wp2_with fail
     go_roundw
     case rel=>exact ⟨j+1,by omega,by go_num,aF HS3.out.1,aF HS3.out.2.1,aF HS3.out.2.2,HF⟩
     case measure=>simp [intOf];omega
   ·have HF:=aF (HV2.out.1 he);have e1:(eo != 0)=true:=by simp [he]
    clear he HV2 HFF;go_wp2_with fail
    go_ret;exact ⟨by rw [HF.out];rfl,HS2.out.2.2⟩
  ·have HF:Hid (R=0):=aF (by rw [hr.out,bE (by rw [HN.out];omega),dJ]);clear hr;go_wp2_with fail
   go_loopw [13] (fun v wr2=>v = .int .i64 0/\wr2=wr) (fun _ _=>0)
   case atStart=>exact ⟨rfl,rfl⟩
   case round=>
    obtain ⟨rfl,rfl⟩:=hrel;go_wp2_with fail
    all_goals
     go_ret;exact ⟨by rw [HF.out];rfl,HB.out⟩
theorem tX {b:Bdy} {bh:BH} {w:World} (H:BdAt w b bh) (rv:Rvl) (t:Nat) (ht:t<b.types.length) (A B:Option Addr) (c d:Nat) (h:shapeE rv=0) (hk:rv.kind=4)
 (h4:b.types[t].kind≠4\/b.types[t].flds.length≠rv.args.length):
 Calls Tryz.prog 94 #[.agg (bdC b bh).toArray,.agg (rvC rv A c B d).toArray,.int .i64 t] w fun e' w'=>e' = .returned (.int .i64 (rvE b rv t))/\Below w.heap.size w w':=by
 have HSH:=aF (fun W=>eJ rv A B c d W)
 have HF:Hid (rvE b rv t=22):=aF (by
  rw [jP h ht,aZ (by omega),aZ (by omega),aZ (by omega),aZ (by omega),bA h4])
 rw [h] at HSH;obtain ⟨bb,oo,hA3,hbb,hx⟩:=H.typ.sl.at_ ht;have hle3:=H.typ.le;have hbig3:=H.typ.big;obtain ⟨r0,-,-,-,A5,c5,r4,-⟩:=hx;generalize rvE b rv t=R at HF ⊢;obtain ⟨tk,htk⟩:∃k,b.types[t].kind=k:=⟨_,rfl⟩;obtain ⟨tn,htn⟩:∃n,b.types[t].flds.length=n:=⟨_,rfl⟩;obtain ⟨n,hn⟩:∃n,rv.args.length=n:=⟨_,rfl⟩;rw [htk] at r0 h4;rw [htn] at r4 h4;rw [hn] at h4;clear H h htk htn;unfold bdC at *;unfold rvC at *;rw [hA3];rw [hk,hn] at HSH ⊢;clear hn;by_cases hk4:tk=4
 ·subst hk4;have hne:tn≠n:=h4.resolve_left (by simp);have e2:((tn:Int) != (n:Int))=true:=by simp;omega
  clear h4;go_enter Tryz.func94,Tryz.ntmps94
  go_wp2_with (go_at_call 128;refine (HSH.out _).mono ?_;rintro e' w1 ⟨rfl,hb⟩;have HB:=aF ((bel2 _ _ _).trans (hb.mono (bel2 _ _ _).size));obtain ⟨y,z⟩:=cU hb;have HY:=aF y;have HZ:=aF z;obtain ⟨y0,y1,y2,y3,y4,y5,y6⟩:=aS HY.out;obtain ⟨z0,z1,z2,z3,z4,z5,z6⟩:=aS HZ.out;have q0:=cO HB.out r0;have q4:=cO HB.out r4;clear y z hb)
  go_quiet (fail)
  all_goals go_wp2_with fail
  all_goals first
   | (exfalso;omega)
   | (go_ret;exact ⟨by rw [HF.out];rfl,aG HB.out _⟩)
   | (exfalso;simp_all;done)
 ·have e1:(tk != 4)=true:=by simp [hk4]
  clear h4 hk4;go_enter Tryz.func94,Tryz.ntmps94
  go_wp2_with (go_at_call 128;refine (HSH.out _).mono ?_;rintro e' w1 ⟨rfl,hb⟩;have HB:=aF ((bel2 _ _ _).trans (hb.mono (bel2 _ _ _).size));obtain ⟨y,z⟩:=cU hb;have HY:=aF y;have HZ:=aF z;obtain ⟨y0,y1,y2,y3,y4,y5,y6⟩:=aS HY.out;obtain ⟨z0,z1,z2,z3,z4,z5,z6⟩:=aS HZ.out;have q0:=cO HB.out r0;have q4:=cO HB.out r4;clear y z hb)
  go_quiet (fail)
  all_goals go_wp2_with fail
  all_goals first
   | (exfalso;omega)
   | (go_ret;exact ⟨by rw [HF.out];rfl,aG HB.out _⟩)
   | (exfalso;simp_all;done)
end
section
open Go Go.RowKit
theorem xCF {prev:List Ty} {d:List Int} {n:Int} {t:Ty} (h:(tyE prev d n t).1=0) (h4:t.kind=4):0<t.flds.length:=by
 unfold tyE at h;by_cases c1:t.kind<0\/4<t.kind
 ·rw [bA c1] at h;cases h
 rw [aZ c1] at h;by_cases c2:(t.kind≠3/\(t.mu=true\/t.reg≠0\/t.elem≠0))\/(t.kind≠4/\0<t.flds.length)
 ·rw [bA c2] at h;cases h
 rw [aZ c2] at h;by_cases c3:t.kind=3/\(t.reg<0\/n<=t.reg)
 ·rw [bA c3] at h;cases h
 rw [aZ c3] at h;cases hd:depF d 0 (if t.kind=3 then [t.elem] else t.flds) with
 | none=>rw [hd] at h;cases h
 | some k=>
   rw [hd] at h;simp only at h;by_cases c4:t.kind=4/\(t.flds.length=0\/65535<t.flds.length)
   ·rw [bA c4] at h;cases h
   ·rcases Nat.eq_zero_or_pos t.flds.length with h0 | h0
    ·exact absurd ⟨h4,Or.inl h0⟩ c4
    ·exact h0
theorem kW (n:Int):∀(l prev:List Ty) (d:List Int),typesE n prev d l=0->∀t∈l,t.kind=4->0<t.flds.length
 | [],_,_,_=>by simp
 | t :: r,prev,d,h=>by
   rw [typesE] at h;by_cases h0:(tyE prev d n t).1=0
   ·rw [bA h0] at h;intro x hx h4;rcases List.mem_cons.1 hx with rfl | hx
    ·exact xCF h0 h4
    ·exact kW n r _ _ h x hx h4
   ·rw [aZ h0] at h;exact absurd h h0
theorem sS {n:Int} {l:List Ty} (h:typesC n l=0):∀t∈l,t.kind=4->0<t.flds.length:=by
 unfold typesC at h;by_cases h0:65535<l.length
 ·rw [bA h0] at h;cases h
 rw [aZ h0] at h;exact kW n l [] [] h
theorem vV {b:Bdy} {bh:BH} {w:World} (H:Rk w b bh) (rv:Rvl) (t:Nat) (ht:t<b.types.length) (A B:Option Addr) (c d:Nat) (hl:Slc 4 ROp w B d rv.args) (h:shapeE rv=0) (hk:rv.kind=4):
 Calls Tryz.prog 94 #[.agg (bdC b bh).toArray,.agg (rvC rv A c B d).toArray,.int .i64 t] w fun e' w'=>e' = .returned (.int .i64 (rvE b rv t))/\Below w.heap.size w w':=by
 by_cases h4:b.types[t].kind≠4\/b.types[t].flds.length≠rv.args.length
 ·exact tX H.at_ rv t ht A B c d h hk h4
 ·have h5:b.types[t].kind=4:=by
   by_cases h6:b.types[t].kind=4
   ·exact h6
   ·exact absurd (Or.inl h6) h4
  have h6:b.types[t].flds.length=rv.args.length:=by
   by_cases h6:b.types[t].flds.length=rv.args.length
   ·exact h6
   ·exact absurd (Or.inr h6) h4
  have h7:=sS H.ok.typC _ (bM ht) h5;exact zV H rv t ht A B c d hl h hk h5 h6 (by omega)
def depK (d:List Int) (t:Ty):Int:=(depF d 0 (if t.kind=3 then [t.elem] else t.flds)).getD 0
def depsN:List Int->List Ty->List Int
 | d,[]=>d
 | d,t :: r=>depsN (d ++ [depK d t+1]) r
theorem gS:∀(d:List Int) (l:List Ty) (t:Ty),depsN d (l ++ [t])=depsN d l ++ [depK (depsN d l) t+1]
 | _,[],_=>rfl
 | d,x :: r,t=>by
   show depsN (d ++ [depK d x+1]) (r ++ [t])=_;rw [gS];rfl
theorem kN:∀(d:List Int) (l:List Ty),(depsN d l).length=d.length+l.length
 | _,[]=>rfl
 | d,x :: r=>by
   show (depsN (d ++ [depK d x+1]) r).length=_;rw [kN];simp;omega
theorem xCG {prev:List Ty} {d:List Int} {n:Int} {t:Ty} (h:(tyE prev d n t).1=0):(tyE prev d n t).2=depK d t+1:=by
 unfold tyE at h ⊢;by_cases c1:t.kind<0\/4<t.kind
 ·rw [bA c1] at h;cases h
 rw [aZ c1] at h ⊢;by_cases c2:(t.kind≠3/\(t.mu=true\/t.reg≠0\/t.elem≠0))\/(t.kind≠4/\0<t.flds.length)
 ·rw [bA c2] at h;cases h
 rw [aZ c2] at h ⊢;by_cases c3:t.kind=3/\(t.reg<0\/n<=t.reg)
 ·rw [bA c3] at h;cases h
 rw [aZ c3] at h ⊢;unfold depK;cases hd:depF d 0 (if t.kind=3 then [t.elem] else t.flds) with
 | none=>rw [hd] at h;cases h
 | some k=>
   rw [hd] at h;simp only at h ⊢;by_cases c4:t.kind=4/\(t.flds.length=0\/65535<t.flds.length)
   ·rw [bA c4] at h;cases h
   rw [aZ c4] at h ⊢;by_cases c5:32<=k
   ·rw [bA c5] at h;cases h
   rw [aZ c5] at h ⊢;by_cases c6:t∈prev
   ·rw [bA c6] at h;cases h
   ·rw [aZ c6];rfl
end
end Go.Proofs.YtcfchohkmkilpaaGreatDoor
