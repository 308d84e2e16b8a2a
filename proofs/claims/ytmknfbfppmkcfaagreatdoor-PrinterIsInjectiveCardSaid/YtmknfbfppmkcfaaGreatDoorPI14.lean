/-
  Parts of the proof: V66 V38N V38O V38E V39A V39I V39C V39D V39O V39E.
-/
import Derived.Test.YtmknfbfppmkcfaaGreatDoorPI0
import Derived.Test.YtmknfbfppmkcfaaGreatDoorPI12
import Derived.Test.YtmknfbfppmkcfaaGreatDoorPI13
import Derived.Test.YtmknfbfppmkcfaaGreatDoorPI5
import Derived.Test.YtmknfbfppmkcfaaGreatDoorPI10
namespace Go.Proofs.YtmknfbfppmkcfaaGreatDoor
set_option maxRecDepth 100000
set_option maxHeartbeats 16000000
section
open Go Go.RowKit
theorem yZ:(Tryz.prog.info? 9).map (fun i=>(i.zero,i.size,i.bytes))=some (some (.string { data:= #[] }),1,16):=by kernel_rfl
structure NmOk (b:Bdy):Prop where
 name:b.name.size<=9223372036854775807
 regs:∀s∈b.regions,s.size<=9223372036854775807
 locs:∀x∈b.locals,x.name.size<=9223372036854775807
 blks:∀x∈b.blocks,x.term.name.size<=9223372036854775807
def dR6 (b:Bdy):Int:=if b.blocks.length=0\/65535<b.blocks.length then 15 else 0
def dR5 (b:Bdy):Int:=if b.args<0\/(b.locals.length:Int)<b.args then 3 else dR6 b
def dR4 (b:Bdy):Int:=if 65535<b.locals.length then 15 else if localsE b.types.length [] b.locals=0 then dR5 b else localsE b.types.length [] b.locals
def dR3 (b:Bdy):Int:=if typesC b.regions.length b.types=0 then dR4 b else typesC b.regions.length b.types
def dR2 (b:Bdy):Int:=if pairsC b.regions.length b.outl=0 then dR3 b else pairsC b.regions.length b.outl
theorem xIH (b:Bdy):dR4 b=if localsC b=0 then dR6 b else localsC b:=by
 unfold dR4 dR5 localsC;by_cases h1:65535<b.locals.length
 ·simp [h1]
 ·rw [aZ h1,aZ h1];by_cases h2:localsE b.types.length [] b.locals=0
  ·rw [bA h2,bA h2];by_cases h3:b.args<0\/(b.locals.length:Int)<b.args
   ·simp [h3]
   ·simp [h3]
  ·rw [aZ h2,aZ h2,aZ h2]
theorem wA (b:Bdy):declC b=if isIdent b.name=false then 12 else if namesC b.regions=0 then dR2 b else namesC b.regions:=by
 unfold declC;by_cases h0:isIdent b.name=false
 ·rw [bA h0,bA h0]
 rw [aZ h0,aZ h0];obtain ⟨q,hq⟩:∃q,firstE [namesC b.regions,pairsC b.regions.length b.outl,typesC b.regions.length b.types,localsC b]=q:=⟨_,rfl⟩;rw [hq];simp only [firstE] at hq;subst hq;by_cases h1:namesC b.regions=0
 ·rw [bA h1,bA h1];unfold dR2;by_cases h2:pairsC b.regions.length b.outl=0
  ·rw [bA h2,bA h2];unfold dR3;by_cases h3:typesC b.regions.length b.types=0
   ·rw [bA h3,bA h3,xIH];unfold dR6;by_cases h4:localsC b=0
    ·simp [h4]
    ·simp [h4]
   ·simp [h3]
  ·simp [h2]
 ·simp [h1]
theorem tL (s:ByteArray) (l:List ByteArray):memN s l.reverse=memN s l:=by
 simp [memN]
theorem xR (b:Bdy) (bh:BH) (w:World) (H:BdAt w b bh) (hz:NmOk b):
 Calls Tryz.prog 54 #[.agg (bdC b bh).toArray] w fun e' w'=>e' = .returned (.int .i64 (declC b))/\Below w.heap.size w w':=by
 obtain ⟨A1,c1,A2,c2,A3,c3,A4,c4,A5,c5⟩:=bh;obtain ⟨iS,iS0,iS1,iS2,iS3⟩:=info_parts yZ;have HH:=aF H;have HZ:=aF hz;have r1:=H.reg.le;have r2:=H.reg.big;have l1:=H.loc.le;have l2:=H.loc.big;have t1:=H.typ.le;have t2:=H.typ.big;have b1:=H.blk.le;have b2:=H.blk.big;simp only at r1 r2 l1 l2 t1 t2 b1 b2;obtain ⟨R,hR⟩:∃R,declC b=R:=⟨_,rfl⟩;rw [hR];rw [wA] at hR;have HR:=aF hR.symm;have HI:=aF (fun W=>gL b.name W hz.name);clear hR H hz;unfold bdC;simp only;have HCW:=aF (cU w [Value.string b.name,.slice A1 b.regions.length c1,.slice A2 b.outl.length c2,.slice A3 b.types.length c3,.slice A4 b.locals.length c4,.int .i64 b.args,.slice A5 b.blocks.length c5] 28);have HBW:=aF ((aX w.heap.size w).alloc (aY _) (.cells ([Value.string b.name,.slice A1 b.regions.length c1,.slice A2 b.outl.length c2,.slice A3 b.types.length c3,.slice A4 b.locals.length c4,.int .i64 b.args,.slice A5 b.blocks.length c5]).toArray 28));have HSZ:w.heap.size<(w.alloc (.cells ([Value.string b.name,.slice A1 b.regions.length c1,.slice A2 b.outl.length c2,.slice A3 b.types.length c3,.slice A4 b.locals.length c4,.int .i64 b.args,.slice A5 b.blocks.length c5]).toArray 28)).heap.size:=by simp
 cases hid:isIdent b.name
 ·rw [hid] at HI HR;have HF:Hid (R=12):=aF HR.out;clear hid HR;go_enter Tryz.func54,Tryz.ntmps54
  go_wp2_with (go_at_call 92;refine (HI.out _).mono ?_;rintro e' w9 ⟨rfl,hw⟩;obtain rfl:=hw.symm)
  go_ret;exact ⟨by rw [HF.out];rfl,HBW.out⟩
 rw [hid] at HI HR;have HQ:Hid (R=if namesC b.regions=0 then dR2 b else namesC b.regions):=aF HR.out;clear hid HR;by_cases hrl:65535<b.regions.length
 ·have HF:Hid (R=15):=aF (by rw [HQ.out];unfold namesC;simp [hrl]);clear HQ;go_enter Tryz.func54,Tryz.ntmps54
  go_wp2_with (go_at_call 92;refine (HI.out _).mono ?_;rintro e' w9 ⟨rfl,hw⟩;obtain rfl:=hw.symm)
  go_ret;exact ⟨by rw [HF.out];rfl,HBW.out⟩
 have HQ2:Hid (R=if namesE (b.regions.take 0).reverse (b.regions.drop 0)=0 then dR2 b else namesE (b.regions.take 0).reverse (b.regions.drop 0)):=aF (by
  rw [HQ.out];unfold namesC;rw [aZ hrl];rfl)
 clear HQ;go_enter Tryz.func54,Tryz.ntmps54
 go_wp2_with (go_at_call 92;refine (HI.out _).mono ?_;rintro e' w9 ⟨rfl,hw⟩;obtain rfl:=hw.symm)
 clear HI;go_loopw [3] (fun v wr=>∃k:Nat,k<=b.regions.length/\v = .int .i64 k/\Hid (aA (bdM b A1 c1 A2 c2 A3 c3 A4 c4 A5 c5 []) wr w.heap.size)/\Hid (Below w.heap.size w wr)/\w.heap.size<wr.heap.size/\Hid (R=if namesE (b.regions.take k).reverse (b.regions.drop k)=0 then dR2 b else namesE (b.regions.take k).reverse (b.regions.drop k))) (fun v _=>b.regions.length - (intOf v).toNat)
 case atStart=>exact ⟨0,by omega,rfl,HCW,HBW,HSZ,HQ2⟩
 case round=>
  clear HCW HBW HSZ HQ2;obtain ⟨k,hk,rfl,HCC,HB,hsz,hr⟩:=hrel;obtain ⟨y0,y1,y2,y3,y4,y5,y6⟩:=aS HCC.out;by_cases hlt:k<b.regions.length
  ·obtain ⟨b3,o3,hA1,hb3,hx⟩:=HH.out.reg.sl.at_ hlt;simp only at hA1;subst hA1;have hd:=cV hlt;have hss:=HZ.out.regs _ (bN hlt);have htk:b.regions.take (k+1)=b.regions.take k ++ [b.regions[k]]:=bF hlt;obtain ⟨s,hsx⟩:∃s,b.regions[k]=s:=⟨_,rfl⟩;rw [hsx] at hx hd hss htk;have P0:=aF (show w.cell? ⟨b3,o3+k,none⟩=some (.string s) by simpa [RN] using hx);have x0:=cM HB.out P0.out;have HIS:=aF (fun W=>gL s W hss)
   have HN:Hid (R=if isIdent s=false then 12 else if memN s (b.regions.take k)=true then 21 else if namesE (b.regions.take (k+1)).reverse (b.regions.drop (k+1))=0 then dR2 b else namesE (b.regions.take (k+1)).reverse (b.regions.drop (k+1))):=aF (by
    rw [hr.out,hd,namesE,tL,htk,List.reverse_append,List.reverse_singleton,List.singleton_append];by_cases h1:isIdent s=false
    ·simp [h1]
    ·rw [aZ h1,aZ h1];by_cases h2:memN s (b.regions.take k)=true
     ·simp [h2]
     ·rw [aZ h2,aZ h2])
   clear hx hd htk hsx hr;cases hid:isIdent s
   ·rw [hid] at HIS HN;have HF:Hid (R=12):=aF HN.out;clear hid HN;go_wp2_with (go_at_call 92;refine (HIS.out _).mono ?_;rintro e' w9 ⟨rfl,hw⟩;obtain rfl:=hw.symm)
    go_ret;exact ⟨by rw [HF.out];rfl,HB.out⟩
   rw [hid] at HIS HN;have HX:=aF (fun W (hb:Below w.heap.size w W)=>qI (b.regions.take k) s (some ⟨b3,o3,none⟩) c1 W ((HH.out.reg.takeN k).keep RN.keeps hb));rw [List.length_take,Nat.min_eq_left hk] at HX
   have HCUT:Hid (∀W,(Instr.slice 22 (.slice (some ⟨b3,o3,none⟩) b.regions.length c1) none (some (.int .i64 (k:Int))) none).run Tryz.prog W = .ok (.slice (some ⟨b3,o3,none⟩) k c1) W):=aF (fun W=>by
    have:=nV (P:=Tryz.prog) 22 9 (some ⟨b3,o3,none⟩) b.regions.length c1 k 1 Tryz.underlying22 Tryz.sizeOf9 (by omega) r1 W
    simpa [cutA,Addr.add] using this)
   have HNG:=oM s 0 (b.regions.take k)
   have HN2:Hid ((0<=idxN s 0 (b.regions.take k)->R=21)/\(¬0<=idxN s 0 (b.regions.take k)->R=if namesE (b.regions.take (k+1)).reverse (b.regions.drop (k+1))=0 then dR2 b else namesE (b.regions.take (k+1)).reverse (b.regions.drop (k+1)))):=aF (by
    have h:=HN.out;simp only [Bool.true_eq_false,if_false] at h;constructor
    ·intro h1;rw [h,bA (HNG.1 h1)]
    ·intro h1
     rw [h,aZ (fun hc=>h1 (HNG.2 hc))])
   generalize idxN s 0 (b.regions.take k)=q at HX HN2;clear hid HN HNG;go_wp2_with (go_at_call 92;refine (HIS.out _).mono ?_;rintro e' w9 ⟨rfl,hw⟩;obtain rfl:=hw.symm)
   clear y0 y1 y2 y3 y4 y5 y6;clear x0;have hS:(aA (bdM b (some ⟨b3,o3,none⟩) c1 A2 c2 A3 c3 A4 c4 A5 c5 []) wr.drew w.heap.size)/\Below w.heap.size w wr.drew:=⟨HCC.out,HB.out.drew⟩;refine cO (S:=fun X=>(aA (bdM b (some ⟨b3,o3,none⟩) c1 A2 c2 A3 c3 A4 c4 A5 c5 []) X w.heap.size)/\Below w.heap.size w X) [0,1,2,3,4,5,6,7,8,9,10] (by kernel_rfl) ?_;(iterate 3 (refine cP (v:=?_) ?_ hS ?_;rotate_left;(next=>(rintro X ⟨hX,hZ⟩;obtain ⟨s0,s1,s2,s3,s4,s5,s6⟩:=aS hX;have x0:=cM hZ P0.out;(try simp only [aI]);go_simp;rfl));simp only [aM]));refine cY (v:= .slice (some ⟨b3,o3,none⟩) k c1) (by kernel_rfl) (fun _ _ _ h=>h) (Or.inl ⟨by rfl,?_⟩) hS ?_
   next=>
    rintro X ⟨hX,hZ⟩;(try simp only [aI]);have hcut:=HCUT.out X;go_simp
   (simp only [aM]);(iterate 5 (refine cP (v:=?_) ?_ hS ?_;rotate_left;(next=>(rintro X ⟨hX,hZ⟩;obtain ⟨s0,s1,s2,s3,s4,s5,s6⟩:=aS hX;have x0:=cM hZ P0.out;(try simp only [aI]);go_simp;rfl));simp only [aM]));(refine cS (fun K1 hK1=>?_);simp only [aM];rw [bA (by rfl)];go_simp);refine (HX.out _ hS.2).mono ?_;rintro e' w2 ⟨rfl,hw⟩;obtain rfl:=hw.symm;refine hK1.out _ _ (fun _=>hS) ?_;clear hK1;((refine cP (v:=?_) ?_ hS ?_;rotate_left;(next=>(rintro X -;(try simp only [aI]);go_simp;rfl));simp only [aM]))
   refine cZ ?_;have HC2:=aF hS.1;have HB2:=aF hS.2;have hsz2:w.heap.size<wr.drew.heap.size:=hsz;clear hS;by_cases hq:0<=q
   ·have HF:=aF (HN2.out.1 hq);have e1:decide (0<=q)=true:=(by simp [hq]);clear HN2;go_wp2_with fail
    all_goals first
     | (exfalso;omega)
     | (go_ret;exact ⟨by rw [HF.out];rfl,HB2.out⟩)
   ·have HF:=aF (HN2.out.2 (by omega));have e1:decide (0<=q)=false:=(by simp [hq]);clear HN2;go_wp2_with fail
    all_goals try (exfalso;omega)
    go_roundw
    case rel=>exact ⟨k+1,by omega,by go_num,HC2,HB2,hsz2,HF⟩
    case measure=>simp [intOf];omega
  ·have HR2:Hid (R=dR2 b):=aF (by rw [hr.out,bE (by omega:b.regions.length<=k)];rfl);have HP:=aF (fun W (hb:Below w.heap.size w W)=>vA b.outl (b.regions.length:Int) A2 c2 W (HH.out.keep hb).out);have HT:=aF (fun W (hb:Below w.heap.size w W)=>lI b.types (b.regions.length:Int) A3 c3 W (HH.out.keep hb).typ);unfold dR2 dR3 at HR2;obtain ⟨q4,hq4⟩:∃q4,dR4 b=q4:=⟨_,rfl⟩;rw [hq4] at HR2;have HQ4:=aF hq4;generalize pairsC (b.regions.length:Int) b.outl=q2 at HP HR2;generalize typesC (b.regions.length:Int) b.types=q3 at HT HR2;clear hr hq4;by_cases h2:q2=0
   case neg=>
    have HF:Hid (R=q2):=aF (by rw [HR2.out,aZ h2]);have e1:(q2 != 0)=true:=by simp [h2]
    clear HR2 h2;go_wp2_with (go_at_call 94;refine (HP.out _ HB.out).mono ?_;rintro e' w9 ⟨rfl,hw⟩;obtain rfl:=hw.symm)
    go_ret;exact ⟨by rw [HF.out];rfl,HB.out⟩
   subst h2;by_cases h3:q3=0
   case neg=>
    have HF:Hid (R=q3):=aF (by rw [HR2.out,bA rfl,aZ h3]);have e1:(q3 != 0)=true:=by simp [h3]
    clear HR2 h3;go_wp2_with (first | (go_at_call 25;refine (HT.out _ HB.out).mono ?_;rintro e' w2 ⟨rfl,hb2⟩;have HB2:=aF (HB.out.trans (hb2.mono HB.out.size));clear hb2) | (go_at_call 94;refine (HP.out _ HB.out).mono ?_;rintro e' w9 ⟨rfl,hw⟩;obtain rfl:=hw.symm))
    go_ret;exact ⟨by rw [HF.out];rfl,HB2.out⟩
   subst h3;have HR4:Hid (R=q4):=aF (by rw [HR2.out];rfl);clear HR2;by_cases hll:65535<b.locals.length
   ·have HF:Hid (R=15):=aF (by rw [HR4.out,<- HQ4.out,dR4,bA hll]);clear HR4 HQ4;go_wp2_with (first | (go_at_call 25;refine (HT.out _ HB.out).mono ?_;rintro e' w2 ⟨rfl,hb2⟩;have HB2:=aF (HB.out.trans (hb2.mono HB.out.size));have HC2:=aF (cN HCC.out hb2);have hsz2:=bO hsz hb2.size;clear hb2 y0 y1 y2 y3 y4 y5 y6;have y4:=HC2.out 4 _ rfl) | (go_at_call 94;refine (HP.out _ HB.out).mono ?_;rintro e' w9 ⟨rfl,hw⟩;obtain rfl:=hw.symm))
    all_goals first
     | (exfalso;omega)
     | (go_ret;exact ⟨by rw [HF.out];rfl,HB2.out⟩)
   have HRL:Hid (R=if localsE b.types.length (((b.locals.take 0).map (·.name)).reverse) (b.locals.drop 0)=0 then dR5 b else localsE b.types.length (((b.locals.take 0).map (·.name)).reverse) (b.locals.drop 0)):=aF (by rw [HR4.out,<- HQ4.out,dR4,aZ hll];rfl);clear HR4 HQ4;go_wp2_with (first | (go_at_call 25;refine (HT.out _ HB.out).mono ?_;rintro e' w2 ⟨rfl,hb2⟩;have HB2:=aF (HB.out.trans (hb2.mono HB.out.size));have HC2:=aF (cN HCC.out hb2);have hsz2:=bO hsz hb2.size;clear hb2 y0 y1 y2 y3 y4 y5 y6;have y4:=HC2.out 4 _ rfl) | (go_at_call 94;refine (HP.out _ HB.out).mono ?_;rintro e' w9 ⟨rfl,hw⟩;obtain rfl:=hw.symm))
   all_goals try (exfalso;omega)
   clear y4 HB HCC hsz;go_loopw [5,6] (fun v i wr=>∃k:Nat,k<=b.locals.length/\i = .int .i64 k/\Hid (aA (bdM b A1 c1 A2 c2 A3 c3 A4 c4 A5 c5 []) wr w.heap.size)/\Hid (Below w.heap.size w wr)/\w.heap.size<wr.heap.size/\Hid (wr.ownsRow (w.heap.size+1) 9 1 v k (((b.locals.take k).map (·.name)).map Value.string))/\Hid (R=if localsE b.types.length (((b.locals.take k).map (·.name)).reverse) (b.locals.drop k)=0 then dR5 b else localsE b.types.length (((b.locals.take k).map (·.name)).reverse) (b.locals.drop k))) (fun _ i _=>b.locals.length - (intOf i).toNat)
   case atStart=>exact ⟨0,by omega,rfl,HC2,HB2,hsz2,aF (World.ownsRow_nil _ _ _ _),HRL⟩
   case round=>
    clear HC2 HB2 hsz2 HRL;obtain ⟨k,hk,rfl,HCC,HB,hsz,HO,hr⟩:=hrel;have hxl:((b.locals.take k).map (·.name)).length=k:=by simp;omega
    obtain ⟨B',d',hv,hsl,-⟩:=lB (R:=RN) (fun w B b o x h=>h) HO.out hxl;subst hv;have HSL:=aF hsl;clear hsl;have y4:=HCC.out 4 _ rfl;have y3:=HCC.out 3 _ rfl;by_cases hlt:k<b.locals.length
    ·obtain ⟨b3,o3,hA4,hb3,hx⟩:=HH.out.loc.sl.at_ hlt;simp only at hA4;subst hA4;have hd:=cV hlt;have hss:=HZ.out.locs _ (bN hlt);have htk:b.locals.take (k+1)=b.locals.take k ++ [b.locals[k]]:=bF hlt;obtain ⟨s,hsx⟩:∃s,b.locals[k]=s:=⟨_,rfl⟩;rw [hsx] at hx hd hss htk;obtain ⟨h0,h1⟩:=hx;have P0:=aF h0;have P1:=aF h1;have x0:=cM HB.out P0.out;have x1:=cM HB.out P1.out;have HIS:=aF (fun W=>gL s.name W hss);have HIX:=aF (qI _ s.name B' d' wr HSL.out);rw [hxl] at HIX;have HNG:=oM s.name 0 ((b.locals.take k).map (·.name))
     have HN:Hid (R=if isIdent s.name=false then 12 else if 0<=idxN s.name 0 ((b.locals.take k).map (·.name)) then 21 else if s.type<0\/(b.types.length:Int)<=s.type then 3 else if localsE b.types.length (((b.locals.take (k+1)).map (·.name)).reverse) (b.locals.drop (k+1))=0 then dR5 b else localsE b.types.length (((b.locals.take (k+1)).map (·.name)).reverse) (b.locals.drop (k+1))):=aF (by
      rw [hr.out,hd,localsE,tL,htk,bU,cJ,cK,List.reverse_append,List.reverse_singleton,List.singleton_append];by_cases h1:isIdent s.name=false
      ·simp [h1]
      ·rw [aZ h1,aZ h1];by_cases h2:memN s.name ((b.locals.take k).map (·.name))=true
       ·rw [bA h2,bA (HNG.2 h2)];rfl
       ·rw [aZ h2,aZ (fun hc=>h2 (HNG.1 hc))];by_cases h3:s.type<0\/(b.types.length:Int)<=s.type
        ·rw [bA h3,bA h3];rfl
        ·rw [aZ h3,aZ h3])
     have HTK:Hid ((((b.locals.take (k+1)).map (·.name)).map Value.string)=(((b.locals.take k).map (·.name)).map Value.string) ++ [Value.string s.name]):=aF (by rw [htk];simp);generalize idxN s.name 0 ((b.locals.take k).map (·.name))=q at HIX HN;clear h0 h1 hd htk hsx hr HNG hss;cases hid:isIdent s.name
     ·rw [hid] at HIS HN;have HF:Hid (R=12):=aF HN.out;clear hid HN;go_wp2_with (go_at_call 92;refine (HIS.out _).mono ?_;rintro e' w9 ⟨rfl,hw⟩;obtain rfl:=hw.symm)
      go_ret;exact ⟨by rw [HF.out];rfl,HB.out⟩
     rw [hid] at HIS HN;by_cases hq:0<=q
     ·have HF:Hid (R=21):=aF (by rw [HN.out,aZ (by simp),bA hq]);have e1:decide (0<=q)=true:=(by simp [hq]);clear hid HN;go_wp2_with (first | (go_at_call 93;refine HIX.out.mono ?_;rintro e' w9 ⟨rfl,hw⟩;obtain rfl:=hw.symm) | (go_at_call 92;refine (HIS.out _).mono ?_;rintro e' w9 ⟨rfl,hw⟩;obtain rfl:=hw.symm))
      all_goals first
       | (exfalso;omega)
       | (go_ret;exact ⟨by rw [HF.out];rfl,HB.out⟩)
     have e1:decide (0<=q)=false:=by simp;omega
     by_cases ht:s.type<0\/(b.types.length:Int)<=s.type
     ·have HF:Hid (R=3):=aF (by rw [HN.out,aZ (by simp),aZ hq,bA ht]);clear hid HN;by_cases ht0:s.type<0
      ·have e2:decide (s.type<0)=true:=(by simp [ht0]);clear ht;go_wp2_with (first | (go_at_call 93;refine HIX.out.mono ?_;rintro e' w9 ⟨rfl,hw⟩;obtain rfl:=hw.symm) | (go_at_call 92;refine (HIS.out _).mono ?_;rintro e' w9 ⟨rfl,hw⟩;obtain rfl:=hw.symm))
       all_goals try (exfalso;omega)
       go_quiet (fail)
       all_goals go_wp2_with fail
       all_goals first
        | (exfalso;omega)
        | (go_ret;exact ⟨by rw [HF.out];rfl,aG HB.out _⟩)
      ·have e2:decide (s.type<0)=false:=by simp;omega
       have e3:decide ((b.types.length:Int)<=s.type)=true:=by simp;omega
       clear ht;go_wp2_with (first | (go_at_call 93;refine HIX.out.mono ?_;rintro e' w9 ⟨rfl,hw⟩;obtain rfl:=hw.symm) | (go_at_call 92;refine (HIS.out _).mono ?_;rintro e' w9 ⟨rfl,hw⟩;obtain rfl:=hw.symm))
       all_goals try (exfalso;omega)
       go_quiet (fail)
       all_goals go_wp2_with fail
       all_goals first
        | (exfalso;omega)
        | (go_ret;exact ⟨by rw [HF.out];rfl,aG HB.out _⟩)
     ·have HF:=aF (show R=_ by rw [HN.out,aZ (by simp),aZ hq,aZ ht]);have e2:decide (s.type<0)=false:=by simp;omega
      have e3:decide ((b.types.length:Int)<=s.type)=false:=by simp;omega
      clear hid HN ht;go_wp2_with (first | (go_at_call 93;refine HIX.out.mono ?_;rintro e' w9 ⟨rfl,hw⟩;obtain rfl:=hw.symm) | (go_at_call 92;refine (HIS.out _).mono ?_;rintro e' w9 ⟨rfl,hw⟩;obtain rfl:=hw.symm))
      all_goals try (exfalso;omega)
      go_quiet (fail)
      obtain ⟨W,hW⟩:∃W,wr.drewN nq=W:=⟨_,rfl⟩;have HB2:Hid (Below w.heap.size w W):=aF (by rw [<- hW];exact aG HB.out _);have HO2:Hid (W.ownsRow (w.heap.size+1) 9 1 (.slice B' k d') k (((b.locals.take k).map (·.name)).map Value.string)):=aF (by rw [<- hW];exact HO.out);have HC2:Hid (aA (bdM b A1 c1 A2 c2 A3 c3 (some ⟨b3,o3,none⟩) c4 A5 c5 []) W w.heap.size):=aF (by rw [<- hW];exact HCC.out);have hsz2:w.heap.size<W.heap.size:=by rw [<- hW];exact hsz
      rw [hW];clear hW HO HB HCC y3 y4 x0 x1 hsz;have y4:=HC2.out 4 _ rfl;have x0:=cM HB2.out P0.out;obtain ⟨L,hL⟩:∃L,((b.locals.take k).map (·.name)).map Value.string=L:=⟨_,rfl⟩;rw [hL] at HO2 HTK;clear hL;have hown2:=HO2.out.alloc (.cells #[.string s.name] 9);go_wp2_with (at_builtin;refine wpList_append_own _ rfl _ _ 22 rfl (w.heap.size+1) 9 iS (.string { data:= #[] }) 1 16 Tryz.underlying22 iS0 iS1 iS2 iS3 rfl (by decide) _ _ _ rfl hown2 ⟨W.heap.size,0,none⟩ 1 1 [.string s.name] rfl rfl (xIR _ _) (xIQ _) (by unfold maxLen;omega) (by omega) (by simp;omega) ?_)
      intro v' w2 hown' hgrow _;have HO3:Hid (w2.ownsRow (w.heap.size+1) 9 1 v' (k+1) (((b.locals.take (k+1)).map (·.name)).map Value.string)):=aF (by rw [HTK.out];exact hown');have hb3':Below (w.heap.size+1) W w2:=((aX _ _).alloc (by omega) _).grown hgrow (by simp;omega) (fun g hg=>(hown2.lt g hg).1);have HC3:Hid (aA (bdM b A1 c1 A2 c2 A3 c3 (some ⟨b3,o3,none⟩) c4 A5 c5 []) w2 w.heap.size):=aF (fun i v hi=>(hb3'.cell (p:=⟨w.heap.size,i,none⟩) (by simp)).trans (HC2.out i v hi));have HB3:Hid (Below w.heap.size w w2):=aF (HB2.out.trans (hb3'.mono (by omega)));have hsz3:w.heap.size<w2.heap.size:=bO hsz2 hb3'.size;clear hown' hgrow hown2 hb3' y4 x0;go_wp2_with fail
      go_roundw
      case rel=>exact ⟨k+1,by omega,by go_num,HC3,HB3,hsz3,HO3,HF⟩
      case measure=>simp [intOf];omega
    ·have HR5:Hid (R=dR5 b):=aF (by rw [hr.out,bE (by omega:b.locals.length<=k)];rfl);obtain ⟨-,-,-,-,-,y5,y6⟩:=aS HCC.out;clear hr HO HSL hxl;by_cases ha:b.args<0\/(b.locals.length:Int)<b.args
     ·have HF:Hid (R=3):=aF (by rw [HR5.out,dR5,bA ha]);clear HR5;go_wp2_with fail
      all_goals first
       | (exfalso;omega)
       | (go_ret;exact ⟨by rw [HF.out];rfl,HB.out⟩)
     have HR6:Hid (R=dR6 b):=aF (by rw [HR5.out,dR5,aZ ha]);clear HR5;unfold dR6 at HR6;obtain ⟨nb,hnb⟩:∃n,b.blocks.length=n:=⟨_,rfl⟩;rw [hnb] at HR6 y6 b1;clear hnb;by_cases hb0:nb=0
     ·subst hb0;have HF:Hid (R=15):=aF (by rw [HR6.out];rfl);clear HR6;go_wp2_with fail
      all_goals first
       | (exfalso;omega)
       | (go_ret;exact ⟨by rw [HF.out];rfl,HB.out⟩)
     have e1:((nb:Int) == 0)=false:=by simp;omega
     by_cases hb:65535<nb
     ·have HF:Hid (R=15):=aF (by rw [HR6.out,bA (.inr hb)]);clear HR6;go_wp2_with fail
      all_goals first
       | (exfalso;omega)
       | (go_ret;exact ⟨by rw [HF.out];rfl,HB.out⟩)
     ·have HF:Hid (R=0):=aF (by rw [HR6.out,aZ (by omega)]);clear HR6;go_wp2_with fail
      all_goals first
       | (exfalso;omega)
       | (go_ret;exact ⟨by rw [HF.out];rfl,HB.out⟩)
end
section
open Go Go.RowKit Go.Maps
theorem xBD {b:Bdy} {bh:BH} {r:Nat} {w:World} (H:Ck w b bh r) (hT:TabsOk w) (s:Stm) (A0 A B:Option Addr) (c0 c d:Nat) (hp0:Slc 2 RPj w A0 c0 s.place.proj) (hp:Slc 2 RPj w A c s.rv.place.proj) (hl:Slc 4 ROp w B d s.rv.args) (hk:s.kind=2):
 Calls Tryz.prog 71 #[.agg (ckC b bh r).toArray,.agg (stC s A0 c0 A c B d).toArray] w fun e' w'=>e' = .returned (.int .i64 (stE b s))/\Below w.heap.size w w':=by
 have HZZ:=aF eV;have HH:=aF H;have HT:=aF hT;have HP0:=aF hp0;have HP:=aF hp;have HL:=aF hl;have hle:=hl.le;have hbig:=hl.big;have hlocl:=H.at_.loc.le;have hlocb:=H.at_.loc.big;obtain ⟨R,hR⟩:∃R,stE b s=R:=⟨_,rfl⟩;rw [hR];have HR:=aF hR;obtain ⟨q1,hq1⟩:∃q,zeroP s.place=q:=⟨_,rfl⟩;obtain ⟨q2,hq2⟩:∃q,(s.rv.kind == 0)=q:=⟨_,rfl⟩;obtain ⟨q3,hq3⟩:∃q,(s.rv.op == 0)=q:=⟨_,rfl⟩;obtain ⟨q4,hq4⟩:∃q,((s.rv.args.length:Int) == 0)=q:=⟨_,rfl⟩;obtain ⟨q5,hq5⟩:∃q,(s.rv.reg == 0)=q:=⟨_,rfl⟩;obtain ⟨q6,hq6⟩:∃q,s.rv.mu=q:=⟨_,rfl⟩;obtain ⟨q7,hq7⟩:∃q,zeroP s.rv.place=q:=⟨_,rfl⟩
 have HBL:Hid (blankR s.rv=(q2 && q3 && q4 && q5 && !q6 && q7)):=aF (by
  unfold blankR;rw [<- hq2,<- hq3,<- hq4,<- hq5,<- hq6,<- hq7,eN]
  rfl)
 have HQ1:=aF hq1;have HQ7:=aF hq7;have HQ2:=aF hq2;have HQ3:=aF hq3;have HQ4:=aF hq4;have HQ5:=aF hq5;have HQ6:=aF hq6;clear hq1 hq2 hq3 hq4 hq5 hq7;have HF0:Hid (R=if q1=false\/(q2 && q3 && q4 && q5 && !q6 && q7)=false\/s.loc≠0 then 2 else 0):=aF (by rw [<- HR.out,stE,aZ (by omega),aZ (by omega),bA hk,HBL.out,HQ1.out]);clear HBL;clear HR hR H hT hp0 hp hl;by_cases hall:q1=true/\q2=true/\q3=true/\q4=true/\q5=true/\q6=false
 case' neg=>
  have HF:Hid (R=2):=aF (by rw [HF0.out,bA];revert hall;cases q1 <;> cases q2 <;> cases q3 <;> cases q4 <;> cases q5 <;> cases q6 <;> simp);clear HF0;rcases (show q1=false\/(q1=true/\q2=false)\/(q1=true/\q2=true/\q3=false)\/(q1=true/\q2=true/\q3=true/\q4=false)\/(q1=true/\q2=true/\q3=true/\q4=true/\q5=false)\/(q1=true/\q2=true/\q3=true/\q4=true/\q5=true/\q6=true) by revert hall;cases q1 <;> cases q2 <;> cases q3 <;> cases q4 <;> cases q5 <;> cases q6 <;> simp) with rfl | ⟨rfl,rfl⟩ | ⟨rfl,rfl,rfl⟩ | ⟨rfl,rfl,rfl,rfl⟩ | ⟨rfl,rfl,rfl,rfl,rfl⟩ | ⟨rfl,rfl,rfl,rfl,rfl,rfl⟩
  all_goals
   clear hall
 case' pos=>
  obtain ⟨rfl,rfl,rfl,rfl,rfl,rfl⟩:=hall;cases q7
  case' false=>
   have HF:Hid (R=2):=aF (by rw [HF0.out];simp);clear HF0
  case' true=>
   by_cases hlo:s.loc≠0
   case' pos=>
    have HF:Hid (R=2):=aF (by rw [HF0.out];simp [hlo];try omega);have e5:(s.loc != 0)=true:=by simp [hlo]
    clear HF0
   case' neg=>
    have HF:Hid (R=0):=aF (by rw [HF0.out];simp [hlo];try omega);have e5:(s.loc != 0)=false:=by simpa using hlo
    clear HF0
 all_goals
  have g2:=HQ2.out;have g3:=HQ3.out;have g4:=HQ4.out;have g5:=HQ5.out;have g6:=HQ6.out;unfold ckC at *;unfold stC;rw [hk];go_enter Tryz.func71,Tryz.ntmps71
  go_wp2_with (first | (go_at_call 115;refine (HZZ.out _ _ _ _).mono ?_;rintro e' w2 ⟨rfl,hb2⟩;rw [HQ7.out];have HB2:=aF (HB.out.trans (hb2.mono HB.out.size));have HY2:=aF (cN HY.out hb2);have HZ3:=aF (cN HZ.out hb2);have HU2:=aF (cN HU.out hb2);clear y0 y1 y2 y3 y4 y5 y6 y7 z0 z1 z2 z10 u0 u1 u2 u3 u4 u5 u6 HY HZ HU HB;have HB:=HB2;have HY:=HY2;have HZ:=HZ3;have HU:=HU2;obtain ⟨y0,y1,y2,y3,y4,y5,y6,y7⟩:=aT HY.out;obtain ⟨z0,z1,z2,-,-,-,-,-,-,-,z10⟩:=aW HZ.out;obtain ⟨u0,u1,u2,u3,u4,u5,u6⟩:=aS HU.out;clear hb2 HB2 HY2 HZ3 HU2) | (go_at_call 115;refine (HZZ.out _ _ _ _).mono ?_;rintro e' w1 ⟨rfl,hb1⟩;rw [HQ1.out];have HB:=aF ((bel3 _ _ _ _).trans (hb1.mono (bel3 _ _ _ _).size));obtain ⟨y,z,u⟩:=dJ hb1;have HY:=aF y;have HZ:=aF z;have HU:=aF u;obtain ⟨y0,y1,y2,y3,y4,y5,y6,y7⟩:=aT HY.out;obtain ⟨z0,z1,z2,-,-,-,-,-,-,-,z10⟩:=aW HZ.out;obtain ⟨u0,u1,u2,u3,u4,u5,u6⟩:=aS HU.out;clear y z u hb1))
  all_goals first
   | (exfalso;omega)
   | (go_ret;exact ⟨by rw [HF.out];rfl,HB.out⟩)
theorem xBC {b:Bdy} {bh:BH} {r:Nat} {w:World} (H:Ck w b bh r) (hT:TabsOk w) (s:Stm) (A0 A B:Option Addr) (c0 c d:Nat) (hp0:Slc 2 RPj w A0 c0 s.place.proj) (hp:Slc 2 RPj w A c s.rv.place.proj) (hl:Slc 4 ROp w B d s.rv.args) (hk0:s.kind≠0) (hk1:s.kind≠1) (hk2:s.kind≠2):
 Calls Tryz.prog 71 #[.agg (ckC b bh r).toArray,.agg (stC s A0 c0 A c B d).toArray] w fun e' w'=>e' = .returned (.int .i64 (stE b s))/\Below w.heap.size w w':=by
 have HZZ:=aF eV;have HH:=aF H;have HT:=aF hT;have HP0:=aF hp0;have HP:=aF hp;have HL:=aF hl;have hle:=hl.le;have hbig:=hl.big;have hlocl:=H.at_.loc.le;have hlocb:=H.at_.loc.big;obtain ⟨R,hR⟩:∃R,stE b s=R:=⟨_,rfl⟩;rw [hR];have HR:=aF hR;obtain ⟨q1,hq1⟩:∃q,zeroP s.place=q:=⟨_,rfl⟩;obtain ⟨q2,hq2⟩:∃q,(s.rv.kind == 0)=q:=⟨_,rfl⟩;obtain ⟨q3,hq3⟩:∃q,(s.rv.op == 0)=q:=⟨_,rfl⟩;obtain ⟨q4,hq4⟩:∃q,((s.rv.args.length:Int) == 0)=q:=⟨_,rfl⟩;obtain ⟨q5,hq5⟩:∃q,(s.rv.reg == 0)=q:=⟨_,rfl⟩;obtain ⟨q6,hq6⟩:∃q,s.rv.mu=q:=⟨_,rfl⟩;obtain ⟨q7,hq7⟩:∃q,zeroP s.rv.place=q:=⟨_,rfl⟩
 have HBL:Hid (blankR s.rv=(q2 && q3 && q4 && q5 && !q6 && q7)):=aF (by
  unfold blankR;rw [<- hq2,<- hq3,<- hq4,<- hq5,<- hq6,<- hq7,eN]
  rfl)
 have HQ1:=aF hq1;have HQ7:=aF hq7;have HQ2:=aF hq2;have HQ3:=aF hq3;have HQ4:=aF hq4;have HQ5:=aF hq5;have HQ6:=aF hq6;clear hq1 hq2 hq3 hq4 hq5 hq7;have HF:Hid (R=14):=aF (by rw [<- HR.out,stE,aZ hk0,aZ hk1,aZ hk2]);have e0:(s.kind == 0)=false:=by simp [hk0]
 have e1:(s.kind == 1)=false:=by simp [hk1]
 have e2:(s.kind == 2)=false:=by simp [hk2]
 clear HBL hk0 hk1 hk2;have hk:True:=trivial;clear HR hR H hT hp0 hp hl;rcases (show q1=false\/(q1=true/\q2=false)\/(q1=true/\q2=true/\q3=false)\/(q1=true/\q2=true/\q3=true/\q4=false)\/(q1=true/\q2=true/\q3=true/\q4=true/\q5=false)\/(q1=true/\q2=true/\q3=true/\q4=true/\q5=true/\q6=true)\/(q1=true/\q2=true/\q3=true/\q4=true/\q5=true/\q6=false) by cases q1 <;> cases q2 <;> cases q3 <;> cases q4 <;> cases q5 <;> cases q6 <;> simp) with rfl | ⟨rfl,rfl⟩ | ⟨rfl,rfl,rfl⟩ | ⟨rfl,rfl,rfl,rfl⟩ | ⟨rfl,rfl,rfl,rfl,rfl⟩ | ⟨rfl,rfl,rfl,rfl,rfl,rfl⟩ | ⟨rfl,rfl,rfl,rfl,rfl,rfl⟩
 all_goals
  have g2:=HQ2.out;have g3:=HQ3.out;have g4:=HQ4.out;have g5:=HQ5.out;have g6:=HQ6.out;unfold ckC at *;unfold stC;go_enter Tryz.func71,Tryz.ntmps71
  go_wp2_with (first | (go_at_call 115;refine (HZZ.out _ _ _ _).mono ?_;rintro e' w2 ⟨rfl,hb2⟩;rw [HQ7.out];have HB2:=aF (HB.out.trans (hb2.mono HB.out.size));have HY2:=aF (cN HY.out hb2);have HZ3:=aF (cN HZ.out hb2);have HU2:=aF (cN HU.out hb2);clear y0 y1 y2 y3 y4 y5 y6 y7 z0 z1 z2 z10 u0 u1 u2 u3 u4 u5 u6 HY HZ HU HB;have HB:=HB2;have HY:=HY2;have HZ:=HZ3;have HU:=HU2;obtain ⟨y0,y1,y2,y3,y4,y5,y6,y7⟩:=aT HY.out;obtain ⟨z0,z1,z2,-,-,-,-,-,-,-,z10⟩:=aW HZ.out;obtain ⟨u0,u1,u2,u3,u4,u5,u6⟩:=aS HU.out;clear hb2 HB2 HY2 HZ3 HU2) | (go_at_call 115;refine (HZZ.out _ _ _ _).mono ?_;rintro e' w1 ⟨rfl,hb1⟩;rw [HQ1.out];have HB:=aF ((bel3 _ _ _ _).trans (hb1.mono (bel3 _ _ _ _).size));obtain ⟨y,z,u⟩:=dJ hb1;have HY:=aF y;have HZ:=aF z;have HU:=aF u;obtain ⟨y0,y1,y2,y3,y4,y5,y6,y7⟩:=aT HY.out;obtain ⟨z0,z1,z2,-,-,-,-,-,-,-,z10⟩:=aW HZ.out;obtain ⟨u0,u1,u2,u3,u4,u5,u6⟩:=aS HU.out;clear y z u hb1))
  all_goals first
   | (exfalso;omega)
   | (go_ret;exact ⟨by rw [HF.out];rfl,by first | exact HBW2.out | exact HBW.out | exact HB.out⟩)
theorem xBG {b:Bdy} {bh:BH} {r:Nat} {w:World} (H:Ck w b bh r) (hT:TabsOk w) (s:Stm) (A0 A B:Option Addr) (c0 c d:Nat) (hp0:Slc 2 RPj w A0 c0 s.place.proj) (hp:Slc 2 RPj w A c s.rv.place.proj) (hl:Slc 4 ROp w B d s.rv.args):
 Calls Tryz.prog 71 #[.agg (ckC b bh r).toArray,.agg (stC s A0 c0 A c B d).toArray] w fun e' w'=>e' = .returned (.int .i64 (stE b s))/\Below w.heap.size w w':=by
 by_cases h0:s.kind=0
 ·by_cases hl0:s.loc=0
  ·by_cases hw:writE b s.place=0
   ·exact xBF H hT s A0 A B c0 c d hp0 hp hl h0 hl0 hw
   ·exact xBB H hT s A0 A B c0 c d hp0 hp hl h0 hl0 hw
  ·exact xBE H hT s A0 A B c0 c d hp0 hp hl h0 hl0
 by_cases h1:s.kind=1
 ·exact xC H hT s A0 A B c0 c d hp0 hp hl h1
 by_cases h2:s.kind=2
 ·exact xBD H hT s A0 A B c0 c d hp0 hp hl h2
 exact xBC H hT s A0 A B c0 c d hp0 hp hl h0 h1 h2
theorem sM {b:Bdy} {bh:BH} {r:Nat} {w:World} (H:Ck w b bh r) (t:Trm) (A B C:Option Addr) (c d f:Nat) (ht:Slc 1 RInt w A c t.targets) (hl:Slc 4 ROp w B d t.args) (hp:Slc 2 RPj w C f t.place.proj) (hk:(t.kind<0\/5<t.kind)\/(¬(t.kind<0\/5<t.kind)/\fieldsT t=false)):
 Calls Tryz.prog 72 #[.agg (ckC b bh r).toArray,.agg (tmC t A c B d C f).toArray] w fun e' w'=>e' = .returned (.int .i64 (tmE b t))/\Below w.heap.size w w':=by
 have HFD:=aF (fun W=>fQ t A B C c d f W);have HH:=aF H;have HTG:=aF ht;have HL:=aF hl;have HP:=aF hp;have hle:=hl.le;have hbig:=hl.big;have hle2:=ht.le;have hbig2:=ht.big;have hblkl:=H.at_.blk.le;have hblkb:=H.at_.blk.big;obtain ⟨R,hR⟩:∃R,tmE b t=R:=⟨_,rfl⟩;rw [hR];have HR:=aF hR;clear hR H ht hl hp;rcases hk with h0 | ⟨h0,hfd⟩
 ·have HF:Hid (R=14):=aF (by rw [<- HR.out,tmE,bA h0]);clear HR HFD;unfold ckC tmC;go_enter Tryz.func72,Tryz.ntmps72
  go_wp2_with fail
  all_goals first
   | (exfalso;omega)
   | (go_ret;exact ⟨by rw [HF.out];rfl,aH⟩)
 ·have HF:Hid (R=2):=aF (by rw [<- HR.out,tmE,aZ h0,bA hfd]);rw [hfd] at HFD;clear HR hfd;unfold ckC;unfold tmC at *;go_enter Tryz.func72,Tryz.ntmps72
  go_wp2_with (go_at_call 118;refine (HFD.out _).mono ?_;rintro e' w1 ⟨rfl,hb1⟩;have HB:=aF ((bel2 _ _ _).trans (hb1.mono (bel2 _ _ _).size));obtain ⟨y,z⟩:=cT hb1;have HY:=aF y;have HZ:=aF z;obtain ⟨y0,y1,y2,y3,y4,y5,y6,y7⟩:=aT HY.out;obtain ⟨z0,z1,z2,z3,z4,z5⟩:=aR HZ.out;clear y z hb1)
  all_goals first
   | (exfalso;omega)
   | (go_ret;exact ⟨by rw [HF.out];rfl,HB.out⟩)
theorem xEM {b:Bdy} {bh:BH} {r:Nat} {w:World} (H:Ck w b bh r) (t:Trm) (A B C:Option Addr) (c d f:Nat) (ht:Slc 1 RInt w A c t.targets) (hl:Slc 4 ROp w B d t.args) (hp:Slc 2 RPj w C f t.place.proj) (hk:t.kind=1) (hfd:fieldsT t=true):
 Calls Tryz.prog 72 #[.agg (ckC b bh r).toArray,.agg (tmC t A c B d C f).toArray] w fun e' w'=>e' = .returned (.int .i64 (tmE b t))/\Below w.heap.size w w':=by
 have HFD:=aF (fun W=>fQ t A B C c d f W);have HH:=aF H;have HTG:=aF ht;have HL:=aF hl;have HP:=aF hp;have hle:=hl.le;have hbig:=hl.big;have hle2:=ht.le;have hbig2:=ht.big;have hblkl:=H.at_.blk.le;have hblkb:=H.at_.blk.big;obtain ⟨R,hR⟩:∃R,tmE b t=R:=⟨_,rfl⟩;rw [hR];have HR:=aF hR;clear hR H ht hl hp
 have hag:∃o,t.args=[o]:=by
  have h:=hfd;unfold fieldsT at h;rw [aZ (by omega),bA hk] at h;simp only [bQ,decide_eq_true_eq] at h;exact List.length_eq_one_iff.1 h.1.1.2
 obtain ⟨o,ho⟩:=hag;obtain ⟨bb,oo,rfl,hbb,hx⟩:=HL.out.sl.at_ (show 0<t.args.length by rw [ho];simp);simp only [ho,List.getElem_cons_zero,Nat.zero_mul,Nat.add_zero] at hx;obtain ⟨p0,⟨p1,A2,c2,p2,hc1,hc2,hsl⟩,p3⟩:=hx;have HPJ:Hid (Slc 2 RPj w A2 c2 o.place.proj):=aF ⟨hsl,hc1,hc2⟩;have P0:=aF p0;have P1:=aF p1;have P2:=aF (show w.cell? ⟨bb,oo+2,none⟩=_ from p2);have P3:=aF p3;have hal:0<t.args.length:=by rw [ho];simp
 have HOO:=aF (fun (W:World) (hb:Below w.heap.size w W)=>pZ (HH.out.keep hb) o A2 c2 (HPJ.out.keep RPj.keeps hb));have HKK:=aF (fun (W:World) (hb:Below w.heap.size w W) (h:opE b o=0)=>tS (HH.out.keep hb) o A2 c2 (HPJ.out.keep RPj.keeps hb) h);obtain ⟨Q,hQ⟩:∃Q,(if opE b o≠0 then opE b o else fail22 (decide (kindO b o≠1)))=Q:=⟨_,rfl⟩;have HQ:=aF hQ
 have HF:Hid (R=if t.targets.all (fun k=>decide (0<=k/\k<(b.blocks.length:Int)))=true then Q else 3):=aF (by
  rw [<- HR.out,tmE,aZ (by omega),aZ (by rw [hfd];simp)];rw [<- HQ.out];cases t.targets.all (fun k=>decide (0<=k/\k<(b.blocks.length:Int)))
  ·simp
  ·simp [hk,ho])
 rw [hfd] at HFD;generalize kindO b o=ko at HKK hQ HQ;generalize opE b o=eo at HOO HKK hQ HQ;clear ho p0 p1 p2 p3 hsl hc1 hc2;unfold opC at HOO HKK;clear HR hQ hfd;unfold ckC at *;unfold tmC at *;rw [hk] at HFD ⊢;go_enter Tryz.func72,Tryz.ntmps72
 go_wp2_with (go_at_call 118;refine (HFD.out _).mono ?_;rintro e' w1 ⟨rfl,hb1⟩;have HB:=aF ((bel2 _ _ _).trans (hb1.mono (bel2 _ _ _).size));obtain ⟨y,z⟩:=cT hb1;have HY:=aF y;have HZ:=aF z;obtain ⟨y0,y1,y2,y3,y4,y5,y6,y7⟩:=aT HY.out;obtain ⟨z0,z1,z2,z3,z4,z5⟩:=aR HZ.out;clear y z hb1)
 all_goals try (exfalso;omega)
 go_loop [27] (fun v=>∃k:Nat,k<=t.targets.length/\v = .int .i64 k/\Hid (R=if (t.targets.drop k).all (fun k=>decide (0<=k/\k<(b.blocks.length:Int)))=true then Q else 3)) (fun v=>t.targets.length - (intOf v).toNat)
 case atStart=>exact ⟨0,by omega,rfl,HF⟩
 case round=>
  clear HF;obtain ⟨k,hk2,rfl,hr⟩:=hrel;by_cases hlt:k<t.targets.length
  ·have hd:=cV hlt;obtain ⟨b5,o5,rfl,hb5,hx⟩:=HTG.out.sl.at_ hlt;obtain ⟨x,hxx⟩:∃x,t.targets[k]=x:=⟨_,rfl⟩;rw [hxx] at hd hx;have x0:w1.cell? ⟨b5,o5+k,none⟩=some (.int .i64 x):=cM HB.out (by simpa [RInt] using hx);by_cases hin:0<=x/\x<(b.blocks.length:Int)
   ·have HF2:Hid (R=if (t.targets.drop (k+1)).all (fun k=>decide (0<=k/\k<(b.blocks.length:Int)))=true then Q else 3):=aF (by rw [hr.out,hd,cB];simp [hin]);have e1:¬x<0:=(by omega);have e2:¬(b.blocks.length:Int)<=x:=(by omega);clear hd hx hxx hr hin;go_wp2_with fail
    all_goals try (exfalso;omega)
    go_round
    case rel=>exact ⟨k+1,by omega,by go_num,HF2⟩
    case measure=>simp [intOf];omega
   ·have HF2:Hid (R=3):=aF (by rw [hr.out,hd,cB];simp;intro h1 h2;exact absurd ⟨h1,h2⟩ hin);clear hd hx hxx hr;go_wp2_with fail
    all_goals first
     | (exfalso;omega)
     | (go_ret;exact ⟨by rw [HF2.out];rfl,HB.out⟩)
  ·have HF2:Hid (R=Q):=aF (by rw [hr.out,bE (by omega:t.targets.length<=k)];rfl);clear hr;go_wp2_with fail
   have hS:aB w [Value.string b.name,.slice bh.A1 b.regions.length bh.c1,.slice bh.A2 b.outl.length bh.c2,.slice bh.A3 b.types.length bh.c3,.slice bh.A4 b.locals.length bh.c4,.int .i64 b.args,.slice bh.A5 b.blocks.length bh.c5,.pointer (some ⟨r,0,none⟩)] [Value.int .i64 1,.slice A t.targets.length c,.slice (some ⟨bb,oo,none⟩) t.args.length d,.int .i64 t.place.loc,.slice C t.place.proj.length f,.string t.name] w1.drew:=⟨HY.out,HZ.out,HB.out.drew⟩;clear y0 y1 y2 y3 y4 y5 y6 y7 z0 z1 z2 z3 z4 z5;refine cO (S:=fun X=>aB w [Value.string b.name,.slice bh.A1 b.regions.length bh.c1,.slice bh.A2 b.outl.length bh.c2,.slice bh.A3 b.types.length bh.c3,.slice bh.A4 b.locals.length bh.c4,.int .i64 b.args,.slice bh.A5 b.blocks.length bh.c5,.pointer (some ⟨r,0,none⟩)] [Value.int .i64 1,.slice A t.targets.length c,.slice (some ⟨bb,oo,none⟩) t.args.length d,.int .i64 t.place.loc,.slice C t.place.proj.length f,.string t.name] X) [0,1,2,3,4,5,6] (by kernel_rfl) ?_;(iterate 5 (refine cP (v:=?_) ?_ hS ?_;rotate_left;(next=>(rintro X ⟨hX,hY,hZ⟩;obtain ⟨s0,s1,s2,s3,s4,s5,s6,s7⟩:=aT hX;have v2:=hY 2 _ rfl;have p0:=cM hZ P0.out;have p1:=cM hZ P1.out;have p2:=cM hZ P2.out;have p3:=cM hZ P3.out;(try simp only [aI]);go_simp;rfl));simp only [aM]));(refine cS (fun K1 hK1=>?_);simp only [aM];rw [bA (by rfl)];go_simp);refine (HOO.out _ hS.2.2).mono ?_;rintro e' w2 ⟨rfl,hb⟩;replace hS:=bJ (cN hS.1 hb) (bJ (cN hS.2.1 hb) (hS.2.2.trans (hb.mono hS.2.2.size)));have HS2:=aF hS;clear hb;refine hK1.out _ _ (fun _=>hS) ?_;clear hK1;((refine cP (v:=?_) ?_ hS ?_;rotate_left;(next=>(rintro X -;(try simp only [aI]);go_simp;rfl));simp only [aM]))
   refine cZ ?_;clear hS;by_cases heo:eo=0
   ·subst heo;have HK2:=aF (fun W hb=>HKK.out W hb rfl);have HF3:Hid (R=fail22 (decide (ko≠1))):=aF (by rw [HF2.out,<- HQ.out];simp);have eko:(ko != 1)=decide (ko≠1):=by rw [bR];simp
    go_wp2_with fail
    have hS:aB w [Value.string b.name,.slice bh.A1 b.regions.length bh.c1,.slice bh.A2 b.outl.length bh.c2,.slice bh.A3 b.types.length bh.c3,.slice bh.A4 b.locals.length bh.c4,.int .i64 b.args,.slice bh.A5 b.blocks.length bh.c5,.pointer (some ⟨r,0,none⟩)] [Value.int .i64 1,.slice A t.targets.length c,.slice (some ⟨bb,oo,none⟩) t.args.length d,.int .i64 t.place.loc,.slice C t.place.proj.length f,.string t.name] w2.drew:=⟨HS2.out.1,HS2.out.2.1,HS2.out.2.2.drew⟩;refine cO (S:=fun X=>aB w [Value.string b.name,.slice bh.A1 b.regions.length bh.c1,.slice bh.A2 b.outl.length bh.c2,.slice bh.A3 b.types.length bh.c3,.slice bh.A4 b.locals.length bh.c4,.int .i64 b.args,.slice bh.A5 b.blocks.length bh.c5,.pointer (some ⟨r,0,none⟩)] [Value.int .i64 1,.slice A t.targets.length c,.slice (some ⟨bb,oo,none⟩) t.args.length d,.int .i64 t.place.loc,.slice C t.place.proj.length f,.string t.name] X) [0,1,2,3,4,5,6,7,8] (by kernel_rfl) ?_;(iterate 5 (refine cP (v:=?_) ?_ hS ?_;rotate_left;(next=>(rintro X ⟨hX,hY,hZ⟩;obtain ⟨s0,s1,s2,s3,s4,s5,s6,s7⟩:=aT hX;have v2:=hY 2 _ rfl;have p0:=cM hZ P0.out;have p1:=cM hZ P1.out;have p2:=cM hZ P2.out;have p3:=cM hZ P3.out;(try simp only [aI]);go_simp;rfl));simp only [aM]));(refine cS (fun K1 hK1=>?_);simp only [aM];rw [bA (by rfl)];go_simp);refine (HK2.out _ hS.2.2).mono ?_;rintro e' w3 ⟨rfl,hb⟩;replace hS:=bJ (cN hS.1 hb) (bJ (cN hS.2.1 hb) (hS.2.2.trans (hb.mono hS.2.2.size)));clear hb;refine hK1.out _ _ (fun _=>hS) ?_;clear hK1;((refine cP (v:=?_) ?_ hS ?_;rotate_left;(next=>(rintro X -;(try simp only [aI]);go_simp;rfl));simp only [aM]))
    try rw [eko]
    (refine cS (fun K1 hK1=>?_);simp only [aM];rw [bA (by rfl)];go_simp);refine (dY _ _).mono ?_;rintro e' w4 ⟨rfl,hw⟩;obtain rfl:=hw.symm;refine hK1.out _ _ (fun _=>hS) ?_;clear hK1;((refine cP (v:=?_) ?_ hS ?_;rotate_left;(next=>(rintro X -;(try simp only [aI]);go_simp;rfl));simp only [aM]))
    refine cZ ?_;have HS3:=aF hS.2.2;clear hS;go_wp2_with fail
    go_ret;exact ⟨by rw [HF3.out];first | rfl | (rw [<- eko];rfl),HS3.out⟩
   ·have HF3:Hid (R=eo):=aF (by rw [HF2.out,<- HQ.out];simp [heo]);have e9:(eo != 0)=true:=by simp [heo]
    clear heo;go_wp2_with fail
    go_ret;exact ⟨by rw [HF3.out];rfl,HS2.out.2.2⟩
theorem wX {b:Bdy} {bh:BH} {r:Nat} {w:World} (H:Ck w b bh r) (t:Trm) (A B C:Option Addr) (c d f:Nat) (ht:Slc 1 RInt w A c t.targets) (hl:Slc 4 ROp w B d t.args) (hp:Slc 2 RPj w C f t.place.proj) (hk:t.kind=3) (hfd:fieldsT t=true):
 Calls Tryz.prog 72 #[.agg (ckC b bh r).toArray,.agg (tmC t A c B d C f).toArray] w fun e' w'=>e' = .returned (.int .i64 (tmE b t))/\Below w.heap.size w w':=by
 have HFD:=aF (fun W=>fQ t A B C c d f W);have HH:=aF H;have HTG:=aF ht;have HL:=aF hl;have HP:=aF hp;have hle:=hl.le;have hbig:=hl.big;have hle2:=ht.le;have hbig2:=ht.big;have hblkl:=H.at_.blk.le;have hblkb:=H.at_.blk.big;obtain ⟨R,hR⟩:∃R,tmE b t=R:=⟨_,rfl⟩;rw [hR];have HR:=aF hR;clear hR H ht hl hp;obtain ⟨Q,hQ⟩:∃Q,(if isIdent t.name=false then 12 else if 65535<t.args.length then 15 else if opsE b t.args []≠0 then opsE b t.args [] else writE b t.place)=Q:=⟨_,rfl⟩;have HQ:=aF hQ
 have HF:Hid (R=if t.targets.all (fun k=>decide (0<=k/\k<(b.blocks.length:Int)))=true then Q else 3):=aF (by
  rw [<- HR.out,tmE,aZ (by omega),aZ (by rw [hfd];simp)];rw [<- HQ.out];cases t.targets.all (fun k=>decide (0<=k/\k<(b.blocks.length:Int)))
  ·simp
  ·simp [hk])
 rw [hfd] at HFD;have HI:=aF (fun W=>fE t.name W);have HPO:=aF (fun (W:World) (hb:Below w.heap.size w W)=>fK (HH.out.keep hb) t.args [] B none d 0 (HL.out.keep ROp.keeps hb) ⟨Sl.nil,by simp,by omega⟩ (by simp));have HW:=aF (fun (W:World) (hb:Below w.heap.size w W)=>gB b bh r t.place C f W (HH.out.keep hb).at_ (HP.out.keep RPj.keeps hb) HH.out.ok.okay);generalize writE b t.place=we at HW hQ HQ;generalize opsE b t.args []=oe at HPO hQ HQ;generalize isIdent t.name=ii at HI hQ HQ;clear HR hQ hfd;unfold ckC at *;unfold tmC at *;rw [hk] at HFD ⊢;go_enter Tryz.func72,Tryz.ntmps72
 go_wp2_with (go_at_call 118;refine (HFD.out _).mono ?_;rintro e' w1 ⟨rfl,hb1⟩;have HB:=aF ((bel2 _ _ _).trans (hb1.mono (bel2 _ _ _).size));obtain ⟨y,z⟩:=cT hb1;have HY:=aF y;have HZ:=aF z;obtain ⟨y0,y1,y2,y3,y4,y5,y6,y7⟩:=aT HY.out;obtain ⟨z0,z1,z2,z3,z4,z5⟩:=aR HZ.out;clear y z hb1)
 all_goals try (exfalso;omega)
 go_loop [27] (fun v=>∃k:Nat,k<=t.targets.length/\v = .int .i64 k/\Hid (R=if (t.targets.drop k).all (fun k=>decide (0<=k/\k<(b.blocks.length:Int)))=true then Q else 3)) (fun v=>t.targets.length - (intOf v).toNat)
 case atStart=>exact ⟨0,by omega,rfl,HF⟩
 case round=>
  clear HF;obtain ⟨k,hk2,rfl,hr⟩:=hrel;by_cases hlt:k<t.targets.length
  ·have hd:=cV hlt;obtain ⟨b5,o5,rfl,hb5,hx⟩:=HTG.out.sl.at_ hlt;obtain ⟨x,hxx⟩:∃x,t.targets[k]=x:=⟨_,rfl⟩;rw [hxx] at hd hx;have x0:w1.cell? ⟨b5,o5+k,none⟩=some (.int .i64 x):=cM HB.out (by simpa [RInt] using hx);by_cases hin:0<=x/\x<(b.blocks.length:Int)
   ·have HF2:Hid (R=if (t.targets.drop (k+1)).all (fun k=>decide (0<=k/\k<(b.blocks.length:Int)))=true then Q else 3):=aF (by rw [hr.out,hd,cB];simp [hin]);have e1:¬x<0:=(by omega);have e2:¬(b.blocks.length:Int)<=x:=(by omega);clear hd hx hxx hr hin;go_wp2_with fail
    all_goals try (exfalso;omega)
    go_round
    case rel=>exact ⟨k+1,by omega,by go_num,HF2⟩
    case measure=>simp [intOf];omega
   ·have HF2:Hid (R=3):=aF (by rw [hr.out,hd,cB];simp;intro h1 h2;exact absurd ⟨h1,h2⟩ hin);clear hd hx hxx hr;go_wp2_with fail
    all_goals first
     | (exfalso;omega)
     | (go_ret;exact ⟨by rw [HF2.out];rfl,HB.out⟩)
  ·have HF2:Hid (R=Q):=aF (by rw [hr.out,bE (by omega:t.targets.length<=k)];rfl);clear hr;cases ii
   ·have HF3:Hid (R=12):=aF (by rw [HF2.out,<- HQ.out];rfl);go_wp2_with (go_at_call 108;refine (HI.out _).mono ?_;rintro e' w2 ⟨rfl,hb⟩;have HB2:=aF (HB.out.trans (hb.mono HB.out.size));have HY2:=aF (cN HY.out hb);have HZ2:=aF (cN HZ.out hb);clear y0 y1 y2 y3 y4 y5 y6 y7 z0 z1 z2 z3 z4 z5;obtain ⟨y0,y1,y2,y3,y4,y5,y6,y7⟩:=aT HY2.out;obtain ⟨z0,z1,z2,z3,z4,z5⟩:=aR HZ2.out;clear hb)
    go_ret;exact ⟨by rw [HF3.out];rfl,HB2.out⟩
   by_cases hln:65535<t.args.length
   ·have HF3:Hid (R=15):=aF (by rw [HF2.out,<- HQ.out];simp [hln]);go_wp2_with (go_at_call 108;refine (HI.out _).mono ?_;rintro e' w2 ⟨rfl,hb⟩;have HB2:=aF (HB.out.trans (hb.mono HB.out.size));have HY2:=aF (cN HY.out hb);have HZ2:=aF (cN HZ.out hb);clear y0 y1 y2 y3 y4 y5 y6 y7 z0 z1 z2 z3 z4 z5;obtain ⟨y0,y1,y2,y3,y4,y5,y6,y7⟩:=aT HY2.out;obtain ⟨z0,z1,z2,z3,z4,z5⟩:=aR HZ2.out;clear hb)
    all_goals first
     | (exfalso;omega)
     | (go_ret;exact ⟨by rw [HF3.out];rfl,HB2.out⟩)
   by_cases hoe:oe=0
   ·have HF3:Hid (R=we):=aF (by rw [HF2.out,<- HQ.out];simp [hln,hoe]);subst hoe;go_wp2_with (first | (go_at_call 108;refine (HI.out _).mono ?_;rintro e' w2 ⟨rfl,hb⟩;have HB2:=aF (HB.out.trans (hb.mono HB.out.size));have HY2:=aF (cN HY.out hb);have HZ2:=aF (cN HZ.out hb);clear y0 y1 y2 y3 y4 y5 y6 y7 z0 z1 z2 z3 z4 z5;obtain ⟨y0,y1,y2,y3,y4,y5,y6,y7⟩:=aT HY2.out;obtain ⟨z0,z1,z2,z3,z4,z5⟩:=aR HZ2.out;clear hb) | (go_at_call 122;refine (HPO.out _ HB2.out).mono ?_;rintro e' w3 ⟨rfl,hb⟩;have HB3:=aF (HB2.out.trans (hb.mono HB2.out.size));have HY3:=aF (cN HY2.out hb);have HZ3:=aF (cN HZ2.out hb);clear y0 y1 y2 y3 y4 y5 y6 y7 z0 z1 z2 z3 z4 z5;obtain ⟨y0,y1,y2,y3,y4,y5,y6,y7⟩:=aT HY3.out;obtain ⟨z0,z1,z2,z3,z4,z5⟩:=aR HZ3.out;clear hb) | (go_at_call 116;refine (HW.out _ HB3.out).mono ?_;rintro e' w4 ⟨rfl,hb⟩;have HB4:=aF (HB3.out.trans (hb.mono HB3.out.size));have HY4:=aF (cN HY3.out hb);have HZ4:=aF (cN HZ3.out hb);clear y0 y1 y2 y3 y4 y5 y6 y7 z0 z1 z2 z3 z4 z5;obtain ⟨y0,y1,y2,y3,y4,y5,y6,y7⟩:=aT HY4.out;obtain ⟨z0,z1,z2,z3,z4,z5⟩:=aR HZ4.out;clear hb))
    all_goals first
     | (exfalso;omega)
     | (go_ret;exact ⟨by rw [HF3.out];rfl,HB4.out⟩)
   ·have HF3:Hid (R=oe):=aF (by rw [HF2.out,<- HQ.out];simp [hln,hoe]);have e9:(oe != 0)=true:=by simp [hoe]
    clear hoe;go_wp2_with (first | (go_at_call 108;refine (HI.out _).mono ?_;rintro e' w2 ⟨rfl,hb⟩;have HB2:=aF (HB.out.trans (hb.mono HB.out.size));have HY2:=aF (cN HY.out hb);have HZ2:=aF (cN HZ.out hb);clear y0 y1 y2 y3 y4 y5 y6 y7 z0 z1 z2 z3 z4 z5;obtain ⟨y0,y1,y2,y3,y4,y5,y6,y7⟩:=aT HY2.out;obtain ⟨z0,z1,z2,z3,z4,z5⟩:=aR HZ2.out;clear hb) | (go_at_call 122;refine (HPO.out _ HB2.out).mono ?_;rintro e' w3 ⟨rfl,hb⟩;have HB3:=aF (HB2.out.trans (hb.mono HB2.out.size));have HY3:=aF (cN HY2.out hb);have HZ3:=aF (cN HZ2.out hb);clear y0 y1 y2 y3 y4 y5 y6 y7 z0 z1 z2 z3 z4 z5;obtain ⟨y0,y1,y2,y3,y4,y5,y6,y7⟩:=aT HY3.out;obtain ⟨z0,z1,z2,z3,z4,z5⟩:=aR HZ3.out;clear hb))
    all_goals first
     | (exfalso;omega)
     | (go_ret;exact ⟨by rw [HF3.out];rfl,HB3.out⟩)
theorem wW {b:Bdy} {bh:BH} {r:Nat} {w:World} (H:Ck w b bh r) (t:Trm) (A B C:Option Addr) (c d f:Nat) (ht:Slc 1 RInt w A c t.targets) (hl:Slc 4 ROp w B d t.args) (hp:Slc 2 RPj w C f t.place.proj) (hk:t.kind=4) (hfd:fieldsT t=true):
 Calls Tryz.prog 72 #[.agg (ckC b bh r).toArray,.agg (tmC t A c B d C f).toArray] w fun e' w'=>e' = .returned (.int .i64 (tmE b t))/\Below w.heap.size w w':=by
 have HFD:=aF (fun W=>fQ t A B C c d f W);have HH:=aF H;have HTG:=aF ht;have HL:=aF hl;have HP:=aF hp;have hle:=hl.le;have hbig:=hl.big;have hle2:=ht.le;have hbig2:=ht.big;have hblkl:=H.at_.blk.le;have hblkb:=H.at_.blk.big;obtain ⟨R,hR⟩:∃R,tmE b t=R:=⟨_,rfl⟩;rw [hR];have HR:=aF hR;clear hR H ht hl hp;obtain ⟨Q,hQ⟩:∃Q,(if (tyB b t.place).2≠0 then (tyB b t.place).2 else fail22 (hasD t.place.proj 0))=Q:=⟨_,rfl⟩;have HQ:=aF hQ
 have HF:Hid (R=if t.targets.all (fun k=>decide (0<=k/\k<(b.blocks.length:Int)))=true then Q else 3):=aF (by
  rw [<- HR.out,tmE,aZ (by omega),aZ (by rw [hfd];simp)];rw [<- HQ.out];cases t.targets.all (fun k=>decide (0<=k/\k<(b.blocks.length:Int)))
  ·simp
  ·simp [hk])
 rw [hfd] at HFD;have HTT:=aF (fun (W:World) (hb:Below w.heap.size w W)=>eM b bh r t.place C f W (HH.out.keep hb).at_ (HP.out.keep RPj.keeps hb) HH.out.ok.okay);have HHD:=aF (fun (W:World) (hb:Below w.heap.size w W)=>tU t.place 0 C f W (HP.out.keep RPj.keeps hb));generalize hasD t.place.proj 0=hdd at HHD hQ HQ;generalize tyB b t.place=q at HTT hQ HQ;obtain ⟨ti,te⟩:=q;simp only at hQ HQ HTT;have HQF:Hid (Q=firstE [te,fail22 hdd]):=aF (by rw [<- HQ.out];simp only [firstE];by_cases h:te=0 <;> simp [h]);clear HR hQ hfd;unfold ckC at *;unfold tmC at *;rw [hk] at HFD ⊢;go_enter Tryz.func72,Tryz.ntmps72
 go_wp2_with (go_at_call 118;refine (HFD.out _).mono ?_;rintro e' w1 ⟨rfl,hb1⟩;have HB:=aF ((bel2 _ _ _).trans (hb1.mono (bel2 _ _ _).size));obtain ⟨y,z⟩:=cT hb1;have HY:=aF y;have HZ:=aF z;obtain ⟨y0,y1,y2,y3,y4,y5,y6,y7⟩:=aT HY.out;obtain ⟨z0,z1,z2,z3,z4,z5⟩:=aR HZ.out;clear y z hb1)
 all_goals try (exfalso;omega)
 go_loop [27] (fun v=>∃k:Nat,k<=t.targets.length/\v = .int .i64 k/\Hid (R=if (t.targets.drop k).all (fun k=>decide (0<=k/\k<(b.blocks.length:Int)))=true then Q else 3)) (fun v=>t.targets.length - (intOf v).toNat)
 case atStart=>exact ⟨0,by omega,rfl,HF⟩
 case round=>
  clear HF;obtain ⟨k,hk2,rfl,hr⟩:=hrel;by_cases hlt:k<t.targets.length
  ·have hd:=cV hlt;obtain ⟨b5,o5,rfl,hb5,hx⟩:=HTG.out.sl.at_ hlt;obtain ⟨x,hxx⟩:∃x,t.targets[k]=x:=⟨_,rfl⟩;rw [hxx] at hd hx;have x0:w1.cell? ⟨b5,o5+k,none⟩=some (.int .i64 x):=cM HB.out (by simpa [RInt] using hx);by_cases hin:0<=x/\x<(b.blocks.length:Int)
   ·have HF2:Hid (R=if (t.targets.drop (k+1)).all (fun k=>decide (0<=k/\k<(b.blocks.length:Int)))=true then Q else 3):=aF (by rw [hr.out,hd,cB];simp [hin]);have e1:¬x<0:=(by omega);have e2:¬(b.blocks.length:Int)<=x:=(by omega);clear hd hx hxx hr hin;go_wp2_with fail
    all_goals try (exfalso;omega)
    go_round
    case rel=>exact ⟨k+1,by omega,by go_num,HF2⟩
    case measure=>simp [intOf];omega
   ·have HF2:Hid (R=3):=aF (by rw [hr.out,hd,cB];simp;intro h1 h2;exact absurd ⟨h1,h2⟩ hin);clear hd hx hxx hr;go_wp2_with fail
    all_goals first
     | (exfalso;omega)
     | (go_ret;exact ⟨by rw [HF2.out];rfl,HB.out⟩)
  ·have HF2:Hid (R=Q):=aF (by rw [hr.out,bE (by omega:t.targets.length<=k)];rfl);clear hr;go_wp2_with (first | (go_at_call 123;refine (HTT.out _ HB.out).mono ?_;rintro e' w2 ⟨rfl,hb⟩;have HB2:=aF (HB.out.trans (hb.mono HB.out.size));have HY2:=aF (cN HY.out hb);have HZ2:=aF (cN HZ.out hb);clear y0 y1 y2 y3 y4 y5 y6 y7 z0 z1 z2 z3 z4 z5;obtain ⟨y0,y1,y2,y3,y4,y5,y6,y7⟩:=aT HY2.out;obtain ⟨z0,z1,z2,z3,z4,z5⟩:=aR HZ2.out;clear hb) | (go_at_call 124;refine (HHD.out _ HB2.out).mono ?_;rintro e' w3 ⟨rfl,hb⟩;have HB3:=aF (HB2.out.trans (hb.mono HB2.out.size));have HY3:=aF (cN HY2.out hb);have HZ3:=aF (cN HZ2.out hb);clear y0 y1 y2 y3 y4 y5 y6 y7 z0 z1 z2 z3 z4 z5;obtain ⟨y0,y1,y2,y3,y4,y5,y6,y7⟩:=aT HY3.out;obtain ⟨z0,z1,z2,z3,z4,z5⟩:=aR HZ3.out;clear hb) | (go_at_call 120;refine (dY _ _).mono ?_;rintro e' w4 ⟨rfl,hw⟩;obtain rfl:=hw.symm) | (go_at_call 109;refine (fP [te,fail22 hdd] _ 2 _ (pF _ _ _ _ _ rfl)).mono ?_;rintro e' w5 ⟨rfl,hw⟩;obtain rfl:=hw.symm))
   go_ret;exact ⟨by rw [HF2.out,HQF.out];rfl,HB3.out.alloc HB3.out.size _⟩
theorem xAY {b:Bdy} {bh:BH} {r:Nat} {w:World} (H:Ck w b bh r) (t:Trm) (A B C:Option Addr) (c d f:Nat) (ht:Slc 1 RInt w A c t.targets) (hl:Slc 4 ROp w B d t.args) (hp:Slc 2 RPj w C f t.place.proj) (hk:t.kind=0\/t.kind=2\/t.kind=5) (hfd:fieldsT t=true):
 Calls Tryz.prog 72 #[.agg (ckC b bh r).toArray,.agg (tmC t A c B d C f).toArray] w fun e' w'=>e' = .returned (.int .i64 (tmE b t))/\Below w.heap.size w w':=by
 have HFD:=aF (fun W=>fQ t A B C c d f W);have HH:=aF H;have HTG:=aF ht;have HL:=aF hl;have HP:=aF hp;have hle:=hl.le;have hbig:=hl.big;have hle2:=ht.le;have hbig2:=ht.big;have hblkl:=H.at_.blk.le;have hblkb:=H.at_.blk.big;obtain ⟨R,hR⟩:∃R,tmE b t=R:=⟨_,rfl⟩;rw [hR];have HR:=aF hR;clear hR H ht hl hp;obtain ⟨Q,hQ⟩:∃Q,((0:Int))=Q:=⟨_,rfl⟩;have HQ:=aF hQ
 have HF:Hid (R=if t.targets.all (fun k=>decide (0<=k/\k<(b.blocks.length:Int)))=true then Q else 3):=aF (by
  rw [<- HR.out,tmE,aZ (by omega),aZ (by rw [hfd];simp)];rw [<- HQ.out];cases t.targets.all (fun k=>decide (0<=k/\k<(b.blocks.length:Int)))
  ·simp
  ·simp [show t.kind≠1 by omega,show t.kind≠3 by omega,show t.kind≠4 by omega])
 rw [hfd] at HFD;clear HR hQ hfd;unfold ckC at *;unfold tmC at *;have k1:(t.kind == 1)=false:=by simp;omega
 have k3:(t.kind == 3)=false:=by simp;omega
 have k4:(t.kind == 4)=false:=by simp;omega
 go_enter Tryz.func72,Tryz.ntmps72
 go_wp2_with (go_at_call 118;refine (HFD.out _).mono ?_;rintro e' w1 ⟨rfl,hb1⟩;have HB:=aF ((bel2 _ _ _).trans (hb1.mono (bel2 _ _ _).size));obtain ⟨y,z⟩:=cT hb1;have HY:=aF y;have HZ:=aF z;obtain ⟨y0,y1,y2,y3,y4,y5,y6,y7⟩:=aT HY.out;obtain ⟨z0,z1,z2,z3,z4,z5⟩:=aR HZ.out;clear y z hb1)
 all_goals try (exfalso;omega)
 go_loop [27] (fun v=>∃k:Nat,k<=t.targets.length/\v = .int .i64 k/\Hid (R=if (t.targets.drop k).all (fun k=>decide (0<=k/\k<(b.blocks.length:Int)))=true then Q else 3)) (fun v=>t.targets.length - (intOf v).toNat)
 case atStart=>exact ⟨0,by omega,rfl,HF⟩
 case round=>
  clear HF;obtain ⟨k,hk2,rfl,hr⟩:=hrel;by_cases hlt:k<t.targets.length
  ·have hd:=cV hlt;obtain ⟨b5,o5,rfl,hb5,hx⟩:=HTG.out.sl.at_ hlt;obtain ⟨x,hxx⟩:∃x,t.targets[k]=x:=⟨_,rfl⟩;rw [hxx] at hd hx;have x0:w1.cell? ⟨b5,o5+k,none⟩=some (.int .i64 x):=cM HB.out (by simpa [RInt] using hx);by_cases hin:0<=x/\x<(b.blocks.length:Int)
   ·have HF2:Hid (R=if (t.targets.drop (k+1)).all (fun k=>decide (0<=k/\k<(b.blocks.length:Int)))=true then Q else 3):=aF (by rw [hr.out,hd,cB];simp [hin]);have e1:¬x<0:=(by omega);have e2:¬(b.blocks.length:Int)<=x:=(by omega);clear hd hx hxx hr hin;go_wp2_with fail
    all_goals try (exfalso;omega)
    go_round
    case rel=>exact ⟨k+1,by omega,by go_num,HF2⟩
    case measure=>simp [intOf];omega
   ·have HF2:Hid (R=3):=aF (by rw [hr.out,hd,cB];simp;intro h1 h2;exact absurd ⟨h1,h2⟩ hin);clear hd hx hxx hr;go_wp2_with fail
    all_goals first
     | (exfalso;omega)
     | (go_ret;exact ⟨by rw [HF2.out];rfl,HB.out⟩)
  ·have HF2:Hid (R=Q):=aF (by rw [hr.out,bE (by omega:t.targets.length<=k)];rfl);clear hr;go_wp2_with fail
   go_ret;exact ⟨by rw [HF2.out,<- HQ.out];rfl,HB.out⟩
theorem xAZ {b:Bdy} {bh:BH} {r:Nat} {w:World} (H:Ck w b bh r) (t:Trm) (A B C:Option Addr) (c d f:Nat) (ht:Slc 1 RInt w A c t.targets) (hl:Slc 4 ROp w B d t.args) (hp:Slc 2 RPj w C f t.place.proj):
 Calls Tryz.prog 72 #[.agg (ckC b bh r).toArray,.agg (tmC t A c B d C f).toArray] w fun e' w'=>e' = .returned (.int .i64 (tmE b t))/\Below w.heap.size w w':=by
 by_cases h0:t.kind<0\/5<t.kind
 ·exact sM H t A B C c d f ht hl hp (Or.inl h0)
 obtain ⟨q,hq⟩:∃q,fieldsT t=q:=⟨_,rfl⟩;cases q
 ·exact sM H t A B C c d f ht hl hp (Or.inr ⟨h0,hq⟩)
 rcases (show t.kind=1\/t.kind=3\/t.kind=4\/(t.kind=0\/t.kind=2\/t.kind=5) by omega) with h | h | h | h
 ·exact xEM H t A B C c d f ht hl hp h hq
 ·exact wX H t A B C c d f ht hl hp h hq
 ·exact wW H t A B C c d f ht hl hp h hq
 ·exact xAY H t A B C c d f ht hl hp h hq
end
end Go.Proofs.YtmknfbfppmkcfaaGreatDoor
