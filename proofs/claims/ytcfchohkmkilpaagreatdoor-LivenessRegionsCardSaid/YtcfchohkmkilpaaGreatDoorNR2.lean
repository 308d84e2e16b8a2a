/-
  LivenessRegions: for every body the law answers true, and the argument reads as it did; the card of the row. Condition: the four listed variables hold at the start what the text of the program lays (the given tie; one is a table of the library, pinned by its name). (part 2)
-/
import Derived.Test.YtcfchohkmkilpaaGreatDoorNR1
namespace Go.Proofs.YtcfchohkmkilpaaGreatDoor
set_option maxRecDepth 100000
set_option maxHeartbeats 16000000
section
open Go Go.RowKit Go.Maps
attribute [local irreducible] Calls
theorem xLL {pairs:List (Int × Int)} {z y:Int}:z∈relL pairs true y↔(z,y)∈pairs:=by
 simp only [relL,if_true,xIL,List.mem_filter,decide_eq_true_eq];constructor
 ·rintro ⟨⟨p,q⟩,⟨h1,h2⟩,h3⟩;simp only at h2 h3;subst h2 h3;exact h1
 ·intro h;exact ⟨(z,y),⟨h,rfl⟩,rfl⟩
theorem OwnI.eq {w:World} {b n:Nat} {sl o:List Int} (h:OwnI w b n sl) (e:∀z,z∈sl↔z∈o):OwnI w b n o:=by
 have:inF sl=inF o:=by funext z;unfold inF;exact decide_eq_decide.2 (e z)
 unfold OwnI at *;rwa [this] at h
structure ClW (w:World) (o:List Int) (v:Value) (W:World):Prop where
 low:Below w.heap.size w W
 own:OwnI W w.heap.size 1000000 o
 row:W.ownsRow (w.heap.size+1) 3 1 v o.length (o.map (Value.int .i64))
theorem ClW.lt {w:World} {o:List Int} {v:Value} {W:World} (h:ClW w o v W):w.heap.size+1<=W.heap.size:=h.own.lt
theorem ClW.keep {w:World} {o:List Int} {v:Value} {W W':World} (h:ClW w o v W) (hb:Below W.heap.size W W'):ClW w o v W':=
 ⟨h.low.trans (hb.mono h.low.size),h.own.below hb,dG h.row hb⟩
def ClM (w:World) (o:List Int) (y:Int) (v:Value) (W:World):Prop:=
 Below w.heap.size w W/\OwnI W w.heap.size 1000000 (o ++ [y])/\W.ownsRow (w.heap.size+1) 3 1 v o.length (o.map (Value.int .i64))
theorem ClW.put {w:World} {o:List Int} {v:Value} {W W':World} (h:ClW w o v W) {y:Int} (ho:OwnI W' w.heap.size 1000001 (y :: o)) (hg:W.grownBy W' (some w.heap.size)) (hr:∀z∈y :: o,0<=z/\z<((1000000:Nat):Int)):ClM w o y v W':=by
 obtain ⟨es,c,hm⟩:=h.own.obj;exact ⟨h.low.trans (eH hg (aY _) h.low.size),(ho.tight hr).eq (fun z=>by simp [or_comm]),nR h.row hm (fun _ _ e=>by cases e) hg⟩
theorem ClM.add {w:World} {o:List Int} {y:Int} {v v':Value} {W W':World} (h:ClM w o y v W) {x:Obj} (hown:(W.alloc x).ownsRow (w.heap.size+1) 3 1 v o.length (o.map (Value.int .i64))) (h1:W'.ownsRow (w.heap.size+1) 3 1 v' (o.length+1) (o.map (Value.int .i64) ++ [.int .i64 y])) (hg:(W.alloc x).grownBy W' v.ownBlock):ClW w (o ++ [y]) v' W':=by
 obtain ⟨h0,ho,hr⟩:=h;have hsz:=ho.lt;have hal:=alF W x;have hlt:=fun g hg=>(hown.lt g hg).1
 refine ⟨(h0.trans (hal.mono h0.size)).grown hg (by simp;omega) (fun g e=>by have:=hlt g e;omega),?_,by rw [bS,bB];exact h1⟩;exact (ho.below hal).block (hg.block _ (by simp;omega) (fun e=>by have:=hlt _ e.symm;omega))
theorem xKX (pairs:List (Int × Int)) (n:Nat) (r:Nat) (w:World) (hR:Rel3 w r n (relL pairs)) (hr:∀p∈pairs,0<=p.1/\p.1<(n:Int)/\0<=p.2/\p.2<(n:Int)) (hn:n<=65536) (hl:pairs.length<=65535)
 (l:List Int) (A:Option Addr) (c:Nat) (hs:Slc 1 RInt w A c l):
 Calls Tryz.prog 47 #[.pointer (some ⟨r,0,none⟩),.slice A l.length c] w fun e' w'=>∃B d s,e' = .returned (.slice B s.length d)/\Srt s (clP pairs n l)/\Slc 1 RInt w' B d s/\(∀a,B=some a->w.heap.size<=a.block)/\Below w.heap.size w w':=by
 obtain ⟨M,hM,hLK⟩:=hR;obtain ⟨x0,x1,x2⟩:=jL hM;have HX0:=aF x0;have HX2:=aF x2;have hle:=hs.le;have hbig:=hs.big;have HSL:=aF hs;have HLK:=aF (fun y h0 h9=>hLK true y h0 h9);have HRP:=aF hr;obtain ⟨i0,hi0,hz0,hz1,hz2⟩:=info_parts dU;have hmm:= @run_makeMap Tryz.prog;clear hs hLK hr hM x0 x1 x2;go_enter Tryz.func47,Tryz.ntmps47
 go_wp2_with fail
 go_loopw [6,15] (fun v i wr=>∃(k:Nat) (o:List Int),i = .int .i64 k/\k<=l.length/\Hid (ClW w o v wr)/\Hid (Cl pairs n l o k 0)) (fun _ i _=>l.length - (intOf i).toNat)
 case atStart=>exact ⟨0,[],rfl,by omega,aF ⟨aH,(OwnI.made w).mono (by omega),by simpa using World.ownsRow_nil _ _ _ _⟩,aF (Cl.start pairs n l)⟩
 case round=>
  obtain ⟨k,o,rfl,hk,HW,HC⟩:=hrel;by_cases hlt:k<l.length
  case pos=>
   obtain ⟨g2,o2,rfl,hb2',hy⟩:=(HSL.out.keep RInt.keeps HW.out.low).sl.at_ hlt;have hyl:=bD hlt;obtain ⟨y,hyy⟩:∃y,l[k]=y:=⟨_,rfl⟩;rw [hyy] at hy hyl;have y0:wr.cell? ⟨g2,o2+k,none⟩=some (.int .i64 y):=by simpa [RInt] using hy
   have HH:=aF (qD r n y wr (cO HW.out.low HX0.out));have hsz:=HW.out.lt;by_cases hin:0<=y/\y<(n:Int)
   case neg=>
    have E1:Hid ((decide (0<=y) && decide (y<(n:Int)))=false):=aF (by simp;omega);have HCN:=aF (HC.out.pass hyl (fun h0 h1=>absurd ⟨h0,h1⟩ hin));clear hin hyl hy HC;go_wp2_with (go_at_call 80;refine HH.out.mono ?_;rintro e' w1 ⟨rfl,hw⟩;obtain rfl:=hw.symm;rw [E1.out])
    go_roundw
    case rel=>exact ⟨k+1,o,by go_num,by omega,HW,HCN⟩
    case measure=>simp [intOf];omega
   case pos=>
   have E1:Hid ((decide (0<=y) && decide (y<(n:Int)))=true):=aF (by simp [hin]);have keyy:=key3 (a:=y) hin.1 (by omega);have hown:=HW.out.own;by_cases hm:y∈o
   case pos=>
    have HFB:Hid (i64F (inF o) (.int .i64 y)=true):=aF (by simp [i64F,inF,hm]);have HCN:=aF (HC.out.pass hyl (fun _ _=>hm));have hlk:=hown.toB.look law3 Tryz.underlying74 Tryz.underlying4 (gC _) keyy;rw [HFB.out] at hlk;clear hin hyl hy HC hm;go_wp2_with (go_at_call 80;refine HH.out.mono ?_;rintro e' w1 ⟨rfl,hw⟩;obtain rfl:=hw.symm;rw [E1.out])
    go_roundw
    case rel=>exact ⟨k+1,o,by go_num,by omega,HW,HCN⟩
    case measure=>simp [intOf];omega
   case neg=>
    have HFB:Hid (i64F (inF o) (.int .i64 y)=false):=aF (by simp [i64F,inF,hm]);have HCN:=aF (HC.out.add hyl hin.1 hin.2 hm)
    have HRG:Hid (∀z∈y :: o,0<=z/\z<((1000000:Nat):Int)):=aF (fun z hz=>by
     rcases List.mem_cons.1 hz with rfl | hz
     ·omega
     ·have:=HC.out.rng z hz;omega)
    have hol:=HC.out.len;have hrow:=HW.out.row;obtain ⟨VA,vc,rfl⟩:=dE hrow;have hlk:=hown.toB.look law3 Tryz.underlying74 Tryz.underlying4 (gC _) keyy;rw [HFB.out] at hlk;clear hin hyl hy HC hm hrow
    go_wp2_with (first
     | (go_at_call 80;refine HH.out.mono ?_;rintro e' w1 ⟨rfl,hw⟩;obtain rfl:=hw.symm;rw [E1.out])
     | (at_mapUpdate;refine xIN _ rfl _ _ _ rfl w.heap.size 1000000 o rfl hown (by unfold maxLen;omega) y rfl rfl keyy ?_;intro w7 ho7 hg7;have HM7:=aF (HW.out.put ho7 hg7 HRG.out);have hown7:=HM7.out.2.2.alloc (.cells #[.int .i64 y] 3);have hsz7:w.heap.size<w7.heap.size:=HM7.out.2.1.lt;clear ho7 hg7)
     | (at_builtin;refine wpList_append_own _ rfl _ _ 34 rfl (w.heap.size+1) 3 i0 (.int .i64 0) 1 8 Tryz.underlying34 hi0 hz0 hz1 hz2 rfl (by decide) _ _ _ rfl hown7 ⟨w7.heap.size,0,none⟩ 1 1 [.int .i64 y] rfl rfl (cell_one_new _ _ _) (fun u hu=>by simp at hu;subst hu;rfl) (by unfold maxLen;omega) (by omega) (by simp;omega) ?_;intro v' w8 hown' hgrow _;have HW8:=aF (HM7.out.add hown7 hown' hgrow);clear hown' hgrow))
    go_roundw
    case rel=>exact ⟨k+1,o ++ [y],by go_num,by omega,HW8,HCN⟩
    case measure=>simp [intOf];omega
  case neg=>
  obtain rfl:k=l.length:=by omega
  clear hlt hk;go_wp2_with fail
  go_loopw [6,9] (fun v jv wr=>∃(j:Nat) (o:List Int),jv = .int .i64 j/\j<=o.length/\Hid (ClW w o v wr)/\Hid (Cl pairs n l o l.length j)) (fun _ jv _=>n - (intOf jv).toNat)
  case atStart=>exact ⟨0,o,rfl,by omega,HW,HC⟩
  case round=>
   clear HW HC;obtain ⟨j,o,rfl,hj,HW,HC⟩:=hrel;have hol:=HC.out.len;obtain ⟨VA,vc,rfl⟩:=dE HW.out.row;have HSO:=aF (xKB HW.out.row (by simp));have hso:=HSO.out.le;have hsb:=HSO.out.big;by_cases hlt:j<o.length
   case pos=>
    obtain ⟨g2,o2,rfl,hb2',hy⟩:=HSO.out.sl.at_ hlt;have hyl:=bD hlt;have hyr:=HC.out.rng _ (bM hlt);obtain ⟨y,hyy⟩:∃y,o[j]=y:=⟨_,rfl⟩;rw [hyy] at hy hyl hyr;have y0:wr.cell? ⟨g2,o2+j,none⟩=some (.int .i64 y):=(by simpa [RInt] using hy);obtain ⟨A3,c3,hlk,hsl⟩:=HLK.out y hyr.1 (by omega);have hS:wr.drew.cell? ⟨r,2,none⟩=some (.map (some (M true)))/\wr.drew.cell? ⟨g2,o2+j,none⟩=some (.int .i64 y)/\(Instr.lookup 123 (.map (some (M true))) (.int .i64 y) false).run Tryz.prog wr.drew = .ok (.slice A3 (relL pairs true y).length c3) wr.drew:=⟨cO HW.out.low.drew HX2.out,y0,hlk wr.drew HW.out.low.drew⟩;have hle3:=hsl.le;have hbig3:=hsl.big;have HSL3:=aF hsl;have hyn:=mE pairs true y;have HCM:=aF (Cm.start HC.out hyl (ys:=relL pairs true y) (fun z=>xLL));clear hy hyl hlk hsl HC HSO;generalize relL pairs true y=ys at *;clear y0;go_wp2_with fail
    refine cT (S:=fun X=>X.cell? ⟨r,2,none⟩=some (.map (some (M true)))/\X.cell? ⟨g2,o2+j,none⟩=some (.int .i64 y)/\(Instr.lookup 123 (.map (some (M true))) (.int .i64 y) false).run Tryz.prog X = .ok (.slice A3 ys.length c3) X) [0,1,2,3,4,5,6,7,8,9,10] (by kernel_rfl) ?_;(iterate 11 (refine cR (v:=?_) ?_ hS ?_;rotate_left;(next=>(rintro X ⟨q1,q2,q3⟩;(try simp only [aI]);go_simp;rfl));simp only [aM]));refine cZ ?_;clear hS;have HW2:=aF (HW.out.keep (aX _ _).drew);obtain ⟨W2,hW2⟩:∃W2,wr.drew=W2:=⟨_,rfl⟩;rw [hW2] at HW2 ⊢;clear hW2 HW;go_wp2_with fail
    go_loopw [6,51] (fun v i wr=>∃(k:Nat) (o:List Int),i = .int .i64 k/\k<=ys.length/\j<o.length/\Hid (ClW w o v wr)/\Hid (Cm pairs n l o j y ys k)) (fun _ i _=>ys.length - (intOf i).toNat)
    case atStart=>exact ⟨0,o,rfl,by omega,hlt,HW2,HCM⟩
    case round=>
     clear HW2 HCM;obtain ⟨k,o,rfl,hk,hjo,HW,HC⟩:=hrel;by_cases hlk:k<ys.length
     case neg=>
      obtain rfl:k=ys.length:=by omega
      have HCL:=aF (HC.out.close (aY _));have hoo:=HCL.out.len;go_wp2_with fail
      go_roundw
      case rel=>exact ⟨j+1,o,by go_num,by omega,HW,HCL⟩
      case measure=>simp [intOf];omega
     case pos=>
     obtain ⟨g3,o3,rfl,hb3',hz⟩:=(HSL3.out.keep RInt.keeps HW.out.low).sl.at_ hlk;have hzl:=bD hlk;have hzr:=HRP.out _ ((HC.out.mem _).1 (bM hlk));obtain ⟨z,hzz⟩:∃z,ys[k]=z:=⟨_,rfl⟩;rw [hzz] at hz hzl hzr;simp only at hzr;have y0:wr.cell? ⟨g3,o3+k,none⟩=some (.int .i64 z):=(by simpa [RInt] using hz);have keyz:=key3 (a:=z) hzr.1 (by omega);have hown:=HW.out.own;have hsz:=HW.out.lt;by_cases hm:z∈o
     case pos=>
      have HFB:Hid (i64F (inF o) (.int .i64 z)=true):=aF (by simp [i64F,inF,hm]);have HCN:=aF (HC.out.pass hzl hm);clear hzl hz HC hm hzr;go_wp2_with (at_lookup;refine dD _ rfl _ _ 74 rfl 3 4 law3 Tryz.underlying74 Tryz.underlying4 (gC _) _ _ _ rfl hown.toB _ _ rfl keyz ?_;rw [HFB.out])
      go_roundw
      case rel=>exact ⟨k+1,o,by go_num,by omega,hjo,HW,HCN⟩
      case measure=>simp [intOf];omega
     case neg=>
      have HFB:Hid (i64F (inF o) (.int .i64 z)=false):=aF (by simp [i64F,inF,hm]);have HCN:=aF (HC.out.add HRP.out hzl hm)
      have HRG:Hid (∀u∈z :: o,0<=u/\u<((1000000:Nat):Int)):=aF (fun u hu=>by
       rcases List.mem_cons.1 hu with rfl | hu
       ·omega
       ·have:=HC.out.base.rng u hu;omega)
      have hol:=HC.out.base.len;have hrow:=HW.out.row;obtain ⟨VA,vc,rfl⟩:=dE hrow;clear hzl hz HC hm hrow hzr
      go_wp2_with (first
       | (at_lookup;refine dD _ rfl _ _ 74 rfl 3 4 law3 Tryz.underlying74 Tryz.underlying4 (gC _) _ _ _ rfl hown.toB _ _ rfl keyz ?_;rw [HFB.out])
       | (at_mapUpdate;refine xIN _ rfl _ _ _ rfl w.heap.size 1000000 o rfl hown (by unfold maxLen;omega) z rfl rfl keyz ?_;intro w7 ho7 hg7;have HM7:=aF (HW.out.put ho7 hg7 HRG.out);have hown7:=HM7.out.2.2.alloc (.cells #[.int .i64 z] 3);have hsz7:w.heap.size<w7.heap.size:=HM7.out.2.1.lt;clear ho7 hg7)
       | (at_builtin;refine wpList_append_own _ rfl _ _ 34 rfl (w.heap.size+1) 3 i0 (.int .i64 0) 1 8 Tryz.underlying34 hi0 hz0 hz1 hz2 rfl (by decide) _ _ _ rfl hown7 ⟨w7.heap.size,0,none⟩ 1 1 [.int .i64 z] rfl rfl (cell_one_new _ _ _) (fun u hu=>by simp at hu;subst hu;rfl) (by unfold maxLen;omega) (by omega) (by simp;omega) ?_;intro v' w8 hown' hgrow _;have HW8:=aF (HM7.out.add hown7 hown' hgrow);clear hown' hgrow))
      go_roundw
      case rel=>exact ⟨k+1,o ++ [z],by go_num,by omega,by simp;omega,HW8,HCN⟩
      case measure=>simp [intOf];omega
   case neg=>
    have HD:=aF (HC.out.done (show o.length<=j by omega));have HND:=aF HC.out.nd;have HST:=aF (zF wr (w.heap.size+1) _ _ _ HW.out.row (by simp) (by omega));clear HC HSO;go_wp2_with (go_at_call 66;refine HST.out.mono ?_;rintro e' w5 ⟨rfl,ho5,hg5⟩;have HO5:=aF ho5;have HG5:=aF hg5;clear ho5 hg5)
    go_ret;have hlt3:=fun g hg=>(HW.out.row.lt g hg).1
    have hr:=xKB (l:=o.mergeSort fun x y=>decide (x<=y)) (A:=VA) (c:=vc) (by simpa using HO5.out) (by simp);refine ⟨VA,vc,o.mergeSort fun x y=>decide (x<=y),by simp,(zE HND.out (fun _=>Iff.rfl)).iff (fun z=>HD.out z),hr,fun a ha=>?_,HW.out.low.grown HG5.out HW.out.low.size (fun g hg=>by have:=hlt3 g hg;omega)⟩;have:=hlt3 a.block (by subst ha;rfl);omega
end
section
open Go Go.RowKit Go.Maps
attribute [local irreducible] Calls
open Classical in
noncomputable def menB (ts:List Ty) (r i:Int):Bool:=decide (Men ts r i)
theorem xKO (ts:List Ty) (r i:Int):menB ts r i=true↔Men ts r i:=by unfold menB;exact @decide_eq_true_iff _ (Classical.propDecidable _)
theorem xLS {ts:List Ty} {r i:Int} (h:Men ts r i):menB ts r i=true:=(xKO ts r i).2 h
theorem xLA {ts:List Ty} {r i:Int} (h:¬Men ts r i):menB ts r i=false:=by rw [Bool.eq_false_iff];exact fun e=>h ((xKO ts r i).1 e)
theorem xMW {ts:List Ty} {r i:Int} (h:Men ts r i):0<=i/\i<(ts.length:Int):=by
 have key:∀{t:Ty},0<=i->ts[i.toNat]?=some t->0<=i/\i<(ts.length:Int):=fun h0 h1=>by
  have:=(List.getElem?_eq_some_iff.1 h1).1;omega
 cases h with
 | here h0 h1 _ _=>exact key h0 h1
 | elem h0 h1 _ _=>exact key h0 h1
 | fld h0 h1 _ _=>exact key h0 h1
theorem xMX {ts:List Ty} {r:Int} {k:Nat} {t:Ty} (ht:ts[((k:Nat):Int).toNat]?=some t):Men ts r (k:Int)↔(t.kind=3/\(t.reg=r\/Men ts r t.elem))\/∃f∈t.flds,Men ts r f:=by
 constructor
 ·intro h;cases h with
  | here h0 h1 h2 h3=>rw [ht] at h1;injection h1 with h1;subst h1;exact .inl ⟨h2,.inl h3⟩
  | elem h0 h1 h2 h3=>rw [ht] at h1;injection h1 with h1;subst h1;exact .inl ⟨h2,.inr h3⟩
  | fld h0 h1 h2 h3=>rw [ht] at h1;injection h1 with h1;subst h1;exact .inr ⟨_,h2,h3⟩
 ·rintro (⟨h2,h3 | h3⟩ | ⟨f,h2,h3⟩)
  ·exact .here (by omega) ht h2 h3
  ·exact .elem (by omega) ht h2 h3
  ·exact .fld (by omega) ht h2 h3
theorem xKY (ts:List Ty) (hok:TyOk ts) (r:Int):∀(m:Nat) (i:Int),i.toNat<m->∀(A:Option Addr) (c:Nat) (w:World),Slc 5 RTy w A c ts->
 Calls Tryz.prog 84 #[.slice A ts.length c,.int .i64 i,.int .i64 r] w fun e' w'=>e' = .returned (.bool (menB ts r i))/\Below w.heap.size w w'
 | 0,_,h=>absurd h (by omega)
 | m+1,i,hm=>by
   intro A c w hs;have hle:=hs.le;have hbig:=hs.big;have HS:=aF hs;have HREC:=aF (fun (f:Int) (hf:f.toNat<m) (W:World) (hW:Below w.heap.size w W)=>xKY ts hok r m f hf A c W (hs.keep RTy.keeps hW));clear hs;by_cases hr:0<=i/\i<(ts.length:Int)
   case neg=>
    rw [xLA (fun h=>hr (xMW h))];clear HREC;go_enter Tryz.func84,Tryz.ntmps84
    go_wp2_with fail
    all_goals first
     | (exfalso;omega)
     | (go_ret;exact ⟨rfl,aX _ _⟩)
     | (simp only [Exit.inBlock,Exit.then];go_ret;exact ⟨rfl,aX _ _⟩)
   case pos=>
   obtain ⟨k,rfl⟩:=bG hr.1;have hlt:k<ts.length:=by omega
   obtain ⟨b,o,rfl,hb,hx⟩:=HS.out.sl.at_ hlt;have htg:ts[((k:Nat):Int).toNat]?=some ts[k]:=by simp [hlt]
   have HOKK:=aF (hok k hlt);obtain ⟨t,ht⟩:∃t,ts[k]=t:=⟨_,rfl⟩;rw [ht] at htg HOKK hx;have HE:=aF (xMX (r:=r) htg);obtain ⟨q,hq⟩:∃q,menB ts r (k:Int)=q:=⟨_,rfl⟩;have HQ:Hid (q=true↔Men ts r (k:Int)):=aF (by rw [<- hq];exact xKO ts r _);rw [hq];clear hq htg ht;obtain ⟨kd,mu,rg,el,fl⟩:=t;obtain ⟨r1,r2,r3,r4,A2,c2,r5,r6,r7,r8⟩:=hx;simp only at *;have HFL:Hid (Slc 1 RInt w A2 c2 fl):=aF ⟨r8,r6,r7⟩;have hk1:k<m+1:=by simpa using hm
   obtain ⟨W0,hW0⟩:∃W0,w.alloc (.cells #[.int .i64 kd,.bool mu,.int .i64 rg,.int .i64 el,.slice A2 fl.length c2] 65)=W0:=⟨_,rfl⟩;have yy:=cQ w [.int .i64 kd,.bool mu,.int .i64 rg,.int .i64 el,.slice A2 fl.length c2] 65;have hb0:=alF w (.cells #[.int .i64 kd,.bool mu,.int .i64 rg,.int .i64 el,.slice A2 fl.length c2] 65);have hsz:W0.heap.size=w.heap.size+1:=by rw [<- hW0];simp
   rw [show ([.int .i64 kd,.bool mu,.int .i64 rg,.int .i64 el,.slice A2 fl.length c2]:List Value).toArray = #[.int .i64 kd,.bool mu,.int .i64 rg,.int .i64 el,.slice A2 fl.length c2] from rfl,hW0] at yy;rw [hW0] at hb0;have y0:=yy 0 _ rfl;have y1:=yy 1 _ rfl;have y2:=yy 2 _ rfl;have y3:=yy 3 _ rfl;have y4:=yy 4 _ rfl;have HB0:=aF hb0;have e0:¬(k:Int)<0:=by omega
   have e1:¬(ts.length:Int)<=(k:Int):=by omega
   clear r8 hr hm yy hb0;have HBW:∀W,Below W0.heap.size W0 W->Below w.heap.size w W:=fun W h=>HB0.out.trans (h.mono HB0.out.size)
   have HBT:=aF HBW;clear HBW;by_cases h3:kd=3
   case pos=>
    subst h3;obtain ⟨he1,he2,rfl⟩:=HOKK.out.1 rfl;simp only [bO] at y4 hW0;by_cases hg:rg=r
    ·have e4:(rg == r)=true:=by simp [hg]
     have HF:Hid (q=true):=aF (HQ.out.2 (HE.out.2 (.inl ⟨rfl,.inl hg⟩)));clear HREC HE HQ HOKK hg;go_enter Tryz.func84,Tryz.ntmps84
     go_wp2_with fail
     go_ret;exact ⟨by rw [HF.out];rfl,HB0.out⟩
    ·have e4:(rg == r)=false:=by simp [hg]
     by_cases hme:Men ts r el
     ·have HC:=aF (HREC.out el (by omega) W0 HB0.out);rw [xLS hme] at HC;have HF:Hid (q=true):=aF (HQ.out.2 (HE.out.2 (.inl ⟨rfl,.inr hme⟩)));clear HREC HE HQ HOKK hg hme;go_enter Tryz.func84,Tryz.ntmps84
      go_wp2_with (go_at_call 84;refine HC.out.mono ?_;rintro e' w1 ⟨rfl,hb1⟩;have HB1:=aF hb1;clear hb1)
      go_ret;exact ⟨by rw [HF.out];rfl,HBT.out _ HB1.out⟩
     ·have HC:=aF (HREC.out el (by omega) W0 HB0.out);rw [xLA hme] at HC
      have HF:Hid (q=false):=aF (by
       rw [Bool.eq_false_iff];intro h;rcases HE.out.1 (HQ.out.1 h) with ⟨_,h | h⟩ | ⟨f,hf,_⟩
       ·exact hg h
       ·exact hme h
       ·cases hf)
      clear HREC HE HQ HOKK hg hme;go_enter Tryz.func84,Tryz.ntmps84
      go_wp2_with (go_at_call 84;refine HC.out.mono ?_;rintro e' w1 ⟨rfl,hb1⟩;have HB1:=aF hb1;clear hb1)
      go_loopw [8] (fun v wr=>v = .int .i64 0/\Hid (Below W0.heap.size W0 wr)) (fun _ _=>0)
      case atStart=>exact ⟨rfl,HB1⟩
      case round=>
       obtain ⟨rfl,HB⟩:=hrel;have z4:=cO HB.out y4;go_wp2_with fail
       go_ret;exact ⟨by rw [HF.out];rfl,HBT.out _ HB.out⟩
   case neg=>
    have e3:(kd == 3)=false:=by simp [h3]
    have HH3:=aF h3;clear h3;go_enter Tryz.func84,Tryz.ntmps84
    go_wp2_with fail
    go_loopw [8] (fun v wr=>∃j:Nat,v = .int .i64 j/\j<=fl.length/\Hid (Below W0.heap.size W0 wr)/\Hid (∀n,n<j->∀f,fl[n]?=some f->¬Men ts r f)) (fun v _=>fl.length - (intOf v).toNat)
    case atStart=>exact ⟨0,rfl,by omega,aF (aX _ _),aF (fun n hn=>absurd hn (by omega))⟩
    case round=>
     obtain ⟨j,rfl,hj,HB,HN⟩:=hrel;have z4:=cO HB.out y4;by_cases hjl:j<fl.length
     case pos=>
      obtain ⟨b3,o3,rfl,hb3,hy⟩:=(HFL.out.keep RInt.keeps (HBT.out _ HB.out)).sl.at_ hjl;have hyl:=bD hjl;have HMEM:=aF (bM hjl);obtain ⟨y,hyy⟩:∃y,fl[j]=y:=⟨_,rfl⟩;rw [hyy] at hy hyl HMEM;have x0:wr.cell? ⟨b3,o3+j,none⟩=some (.int .i64 y):=(by simpa [RInt] using hy);have HC:=aF (HREC.out y (by have:=HOKK.out.2 y HMEM.out;omega) wr (HBT.out _ HB.out));by_cases hme:Men ts r y
      ·rw [xLS hme] at HC;have HF:Hid (q=true):=aF (HQ.out.2 (HE.out.2 (.inr ⟨y,HMEM.out,hme⟩)));clear hy hyy hyl hme y0 y1 y2 y3 y4;go_wp2_with (go_at_call 84;refine HC.out.mono ?_;rintro e' w1 ⟨rfl,hb1⟩;have HB1:=aF hb1;clear hb1)
       go_ret;exact ⟨by rw [HF.out];rfl,HBT.out _ (HB.out.trans (HB1.out.mono HB.out.size))⟩
      ·rw [xLA hme] at HC
       have HN2:Hid (∀n,n<j+1->∀f,fl[n]?=some f->¬Men ts r f):=aF (fun n hn f hf=>by
        by_cases e:n=j
        ·subst e;rw [hyl] at hf;injection hf with hf;exact hf ▸ hme
        ·exact HN.out n (by omega) f hf)
       clear hy hyy hyl hme y0 y1 y2 y3 y4;go_wp2_with (go_at_call 84;refine HC.out.mono ?_;rintro e' w1 ⟨rfl,hb1⟩;have HB1:=aF (HB.out.trans (hb1.mono HB.out.size));clear hb1)
       go_roundw
       case rel=>exact ⟨j+1,by go_num,by omega,HB1,HN2⟩
       case measure=>simp [intOf];omega
     case neg=>
      have HF:Hid (q=false):=aF (by
       rw [Bool.eq_false_iff];intro h;rcases HE.out.1 (HQ.out.1 h) with ⟨h,_⟩ | ⟨f,hf,hm⟩
       ·exact HH3.out h
       ·obtain ⟨n,hn,e⟩:=List.getElem_of_mem hf
        exact HN.out n (by omega) f (by rw [bD hn,e]) hm)
      go_wp2_with fail
      go_ret;exact ⟨by rw [HF.out];rfl,HBT.out _ HB.out⟩
end
section
open Go Go.RowKit Go.Maps
attribute [local irreducible] Calls
def PxR (b:Bdy) (r x:Int):Prop:=∃l,b.locals[x.toNat]?=some l/\∃s,Men b.types s l.type/\0<=s/\s<(b.regions.length:Int)/\outB b.outl b.regions.length r s=true
def NoJ (b:Bdy) (r:Int) (l:Lc) (j:Nat):Prop:=∀s:Int,0<=s->s<(j:Int)->¬(Men b.types s l.type/\outB b.outl b.regions.length r s=true)
end
section
open Go Go.RowKit Go.Maps
attribute [local irreducible] Calls
open Classical in
noncomputable def rglB (b:Bdy) (ll:List Int) (r:Int):Bool:=decide (∃x∈ll,PxR b r x)
end
section
open Go Go.RowKit Go.Maps
attribute [local irreducible] Calls
open Classical in
open Classical in
theorem xKZ (b:Bdy) (ll:List Int) (r:Int):rglB b ll r=true↔∃x∈ll,PxR b r x:=by unfold rglB;exact decide_eq_true_iff
theorem xML (b:Bdy) (bh:BH) (w:World) (H:BdAt w b bh) (hok:TyOk b.types) (hp:∀p∈b.outl,0<=p.1/\p.1<(b.regions.length:Int)/\0<=p.2/\p.2<(b.regions.length:Int)) (hn:b.regions.length<=65536)
 (ll:List Int) (A:Option Addr) (c:Nat) (hs:Slc 1 RInt w A c ll) (hin:∀x∈ll,0<=x/\x<(b.locals.length:Int)) (r:Int):
 Calls Tryz.prog 51 #[.agg (bdC b bh).toArray,.slice A ll.length c,.int .i64 r] w fun e' w'=>e' = .returned (.bool (rglB b ll r))/\Below w.heap.size w w':=by
 have hle:=hs.le;have hbig:=hs.big;have HSL:=aF hs;have HIN:=aF hin;have HLO:=aF H.loc;have hll:=H.loc.le;have hlb:=H.loc.big;have hrl:=H.reg.le;have hrb:=H.reg.big;have HM:=aF (fun (s i:Int) (W:World) (hb:Below w.heap.size w W)=>xKY b.types hok s (i.toNat+1) i (by omega) bh.A3 bh.c3 W (H.keep hb).typ);have HO:=aF (fun (s:Int) (W:World) (hb:Below w.heap.size w W)=>iK b.outl b.regions.length r s bh.A2 bh.c2 W (H.keep hb).out hp hn);obtain ⟨q,hq⟩:∃q,rglB b ll r=q:=⟨_,rfl⟩;have HQ:Hid (q=true↔∃x∈ll,PxR b r x):=aF (by rw [<- hq];exact xKZ b ll r);rw [hq];obtain ⟨W0,hW0⟩:∃W0,w.alloc (.cells ([Value.string b.name,.slice bh.A1 b.regions.length bh.c1,.slice bh.A2 b.outl.length bh.c2,.slice bh.A3 b.types.length bh.c3,.slice bh.A4 b.locals.length bh.c4,.int .i64 b.args,.slice bh.A5 b.blocks.length bh.c5]).toArray 28)=W0:=⟨_,rfl⟩;have yy:=cQ w [Value.string b.name,.slice bh.A1 b.regions.length bh.c1,.slice bh.A2 b.outl.length bh.c2,.slice bh.A3 b.types.length bh.c3,.slice bh.A4 b.locals.length bh.c4,.int .i64 b.args,.slice bh.A5 b.blocks.length bh.c5] 28;have hb0:=alF w (.cells ([Value.string b.name,.slice bh.A1 b.regions.length bh.c1,.slice bh.A2 b.outl.length bh.c2,.slice bh.A3 b.types.length bh.c3,.slice bh.A4 b.locals.length bh.c4,.int .i64 b.args,.slice bh.A5 b.blocks.length bh.c5]).toArray 28);have hsz:W0.heap.size=w.heap.size+1:=by rw [<- hW0];simp
 rw [hW0] at yy hb0;have y1:=yy 1 _ rfl;have y2:=yy 2 _ rfl;have y3:=yy 3 _ rfl;have y4:=yy 4 _ rfl;have HBT:Hid (∀W,Below W0.heap.size W0 W->Below w.heap.size w W):=aF (fun W h=>hb0.trans (h.mono hb0.size));clear hq yy hb0 H hs hin hok hp;unfold bdC;go_enter Tryz.func51,Tryz.ntmps51
 go_wp2_with fail
 go_loopw [7] (fun v wr=>∃i:Nat,v = .int .i64 i/\i<=ll.length/\Hid (Below W0.heap.size W0 wr)/\Hid (∀n,n<i->∀x,ll[n]?=some x->¬PxR b r x)) (fun v _=>ll.length - (intOf v).toNat)
 case atStart=>exact ⟨0,rfl,by omega,aF (aX _ _),aF (fun n hn=>absurd hn (by omega))⟩
 case round=>
  obtain ⟨i,rfl,hi,HB,HN⟩:=hrel;by_cases hil:i<ll.length
  case neg=>
   have HF:Hid (q=false):=aF (by
    rw [Bool.eq_false_iff];intro h;obtain ⟨x,hx,hpx⟩:=HQ.out.1 h;obtain ⟨n,hn,e⟩:=List.getElem_of_mem hx
    exact HN.out n (by omega) x (by rw [bD hn,e]) hpx)
   go_wp2_with fail
   go_ret;exact ⟨by rw [HF.out];rfl,HBT.out _ HB.out⟩
  case pos=>
  obtain ⟨g2,o2,rfl,hg2,hy⟩:=(HSL.out.keep RInt.keeps (HBT.out _ HB.out)).sl.at_ hil;have hyl:=bD hil;have hyr:=HIN.out _ (bM hil);have hym:=bM hil;obtain ⟨y,hyy⟩:∃y,ll[i]=y:=⟨_,rfl⟩;rw [hyy] at hy hyl hyr hym;obtain ⟨y,rfl⟩:=bG hyr.1;have x0:wr.cell? ⟨g2,o2+i,none⟩=some (.int .i64 (y:Int)):=by simpa [RInt] using hy
  have hyn:y<b.locals.length:=by omega
  obtain ⟨lb,lo,hA4,hlb4,hl1,hl2⟩:=(HLO.out.keep RLc.keeps (HBT.out _ HB.out)).sl.at_ hyn;have hyg:b.locals[((y:Nat):Int).toNat]?=some b.locals[y]:=by simp [hyn]
  obtain ⟨l,hlt⟩:∃l,b.locals[y]=l:=⟨_,rfl⟩;rw [hlt] at hl2 hyg;have HYG:=aF hyg;have HYL:=aF hyl;have HYM:=aF hym;rw [hA4] at y4;have X0:=aF x0;have XL:=aF hl2;obtain ⟨Wi,rfl⟩:∃Wi,Wi=wr:=⟨_,rfl⟩;clear hy hyl hyy hlt hl1 hym hyg x0 hl2 hA4;go_wp2_with fail
  go_loopw [8] (fun v wr=>∃j:Nat,v = .int .i64 j/\j<=b.regions.length/\Hid (Below Wi.heap.size Wi wr)/\Hid (NoJ b r l j)) (fun v _=>b.regions.length - (intOf v).toNat)
  case atStart=>exact ⟨0,rfl,by omega,aF (aX _ _),aF (fun s h0 h1=>absurd h0 (by omega))⟩
  case round=>
   obtain ⟨j,rfl,hj,HBI,HNJ⟩:=hrel;have HBA:=aF (HB.out.trans (HBI.out.mono HB.out.size));have z1:=cO HBA.out y1;by_cases hjl:j<b.regions.length
   case neg=>
    have HN2:Hid (∀n,n<i+1->∀x,ll[n]?=some x->¬PxR b r x):=aF (fun n hn x hx=>by
     by_cases e:n=i
     ·subst e;rw [HYL.out] at hx;injection hx with hx;subst hx
      rintro ⟨l2,hl2,s,hs1,hs2,hs3,hs4⟩;rw [HYG.out] at hl2;injection hl2 with hl2;subst hl2
      exact HNJ.out s hs2 (by omega) ⟨hs1,hs4⟩
     ·exact HN.out n (by omega) x hx)
    go_wp2_with fail
    go_roundw
    case rel=>exact ⟨i+1,by go_num,by omega,HBA,HN2⟩
    case measure=>simp [intOf];omega
   case pos=>
   have HMC:=aF (HM.out (j:Int) l.type wr.drew (HBT.out _ HBA.out.drew));have hS:(fun X=>X.cell? ⟨w.heap.size,1,none⟩=some (.slice bh.A1 b.regions.length bh.c1)/\X.cell? ⟨w.heap.size,2,none⟩=some (.slice bh.A2 b.outl.length bh.c2)/\X.cell? ⟨w.heap.size,3,none⟩=some (.slice bh.A3 b.types.length bh.c3)/\X.cell? ⟨w.heap.size,4,none⟩=some (.slice (some ⟨lb,lo,none⟩) b.locals.length bh.c4)/\X.cell? ⟨g2,o2+i,none⟩=some (.int .i64 (y:Int))/\X.cell? ⟨lb,lo+y * 2+1,none⟩=some (.int .i64 l.type)) wr.drew:=⟨z1,cO HBA.out.drew y2,cO HBA.out.drew y3,cO HBA.out.drew y4,cO HBI.out.drew X0.out,cO HBI.out.drew XL.out⟩;go_wp2_with fail
   clear z1;refine cT (S:=fun X=>X.cell? ⟨w.heap.size,1,none⟩=some (.slice bh.A1 b.regions.length bh.c1)/\X.cell? ⟨w.heap.size,2,none⟩=some (.slice bh.A2 b.outl.length bh.c2)/\X.cell? ⟨w.heap.size,3,none⟩=some (.slice bh.A3 b.types.length bh.c3)/\X.cell? ⟨w.heap.size,4,none⟩=some (.slice (some ⟨lb,lo,none⟩) b.locals.length bh.c4)/\X.cell? ⟨g2,o2+i,none⟩=some (.int .i64 (y:Int))/\X.cell? ⟨lb,lo+y * 2+1,none⟩=some (.int .i64 l.type)) [0,1,2,3,4,5,6,7,8,9,10,11,12,13,14,15,16,17,18,19,20,21,22] (by kernel_rfl) ?_;(iterate 12 (refine cR (v:=?_) ?_ hS ?_;rotate_left;(next=>(rintro X ⟨q1,q2,q3,q4,q5,q6⟩;(try simp only [aI]);go_simp;rfl));simp only [aM]));(refine cY (fun K1 hK1=>?_);simp only [aM];rw [bA (by rfl)];go_simp);have HS:=aF hS;by_cases hm:Men b.types (j:Int) l.type
   case neg=>
    rw [xLA hm] at HMC
    have HNJ2:Hid (NoJ b r l (j+1)):=aF (fun s h0 h1 h=>by
     by_cases e:s=(j:Int)
     ·subst e;exact hm h.1
     ·exact HNJ.out s h0 (by omega) h)
    clear hm;go_at_call 84
    refine HMC.out.mono ?_;rintro e' w3 ⟨rfl,hb3⟩;have hS2:(fun X=>X.cell? ⟨w.heap.size,1,none⟩=some (.slice bh.A1 b.regions.length bh.c1)/\X.cell? ⟨w.heap.size,2,none⟩=some (.slice bh.A2 b.outl.length bh.c2)/\X.cell? ⟨w.heap.size,3,none⟩=some (.slice bh.A3 b.types.length bh.c3)/\X.cell? ⟨w.heap.size,4,none⟩=some (.slice (some ⟨lb,lo,none⟩) b.locals.length bh.c4)/\X.cell? ⟨g2,o2+i,none⟩=some (.int .i64 (y:Int))/\X.cell? ⟨lb,lo+y * 2+1,none⟩=some (.int .i64 l.type)) w3:=⟨cO hb3 HS.out.1,cO hb3 HS.out.2.1,cO hb3 HS.out.2.2.1,cO hb3 HS.out.2.2.2.1,cO hb3 HS.out.2.2.2.2.1,cO hb3 HS.out.2.2.2.2.2⟩;have HB3:=aF (HBI.out.drew.trans (hb3.mono HBI.out.size));refine hK1.out _ _ (fun _=>hS2) ?_;have hS:=hS2;((refine cR (v:=?_) ?_ hS ?_;rotate_left;(next=>(rintro X ⟨q1,q2,q3,q4,q5,q6⟩;(try simp only [aI]);go_simp;rfl));simp only [aM]))
    (iterate 8 (refine dA (v:=undef) (by kernel_rfl) (fun _ _ _ h=>h) (Or.inr ⟨by rfl,rfl⟩) hS ?_;simp only [aM]));((refine cR (v:=?_) ?_ hS ?_;rotate_left;(next=>(rintro X ⟨q1,q2,q3,q4,q5,q6⟩;(try simp only [aI]);go_simp;rfl));simp only [aM]))
    refine cZ ?_;clear hS hS2;go_wp2_with fail
    go_roundw
    case rel=>exact ⟨j+1,by go_num,by omega,HB3,HNJ2⟩
    case measure=>simp [intOf];omega
   case pos=>
    rw [xLS hm] at HMC;go_at_call 84
    refine HMC.out.mono ?_;rintro e' w3 ⟨rfl,hb3⟩;have hS2:(fun X=>X.cell? ⟨w.heap.size,1,none⟩=some (.slice bh.A1 b.regions.length bh.c1)/\X.cell? ⟨w.heap.size,2,none⟩=some (.slice bh.A2 b.outl.length bh.c2)/\X.cell? ⟨w.heap.size,3,none⟩=some (.slice bh.A3 b.types.length bh.c3)/\X.cell? ⟨w.heap.size,4,none⟩=some (.slice (some ⟨lb,lo,none⟩) b.locals.length bh.c4)/\X.cell? ⟨g2,o2+i,none⟩=some (.int .i64 (y:Int))/\X.cell? ⟨lb,lo+y * 2+1,none⟩=some (.int .i64 l.type)) w3:=⟨cO hb3 HS.out.1,cO hb3 HS.out.2.1,cO hb3 HS.out.2.2.1,cO hb3 HS.out.2.2.2.1,cO hb3 HS.out.2.2.2.2.1,cO hb3 HS.out.2.2.2.2.2⟩;have HB3:=aF (HBI.out.drew.trans (hb3.mono HBI.out.size));have HBA3:=aF (HB.out.trans (HB3.out.mono HB.out.size));refine hK1.out _ _ (fun _=>hS2) ?_;have hS:=hS2;have HOC:=aF (HO.out (j:Int) w3 (HBT.out _ HBA3.out));clear hb3 hS2;(iterate 8 (refine cR (v:=?_) ?_ hS ?_;rotate_left;(next=>(rintro X ⟨q1,q2,q3,q4,q5,q6⟩;(try simp only [aI]);go_simp;rfl));simp only [aM]));(refine cY (fun K1 hK1=>?_);simp only [aM];rw [bA (by rfl)];go_simp);have HS3:=aF hS;cases hob:outB b.outl b.regions.length r (j:Int)
    ·rw [hob] at HOC
     have HNJ2:Hid (NoJ b r l (j+1)):=aF (fun s h0 h1 h=>by
      by_cases e:s=(j:Int)
      ·subst e;rw [hob] at h;cases h.2
      ·exact HNJ.out s h0 (by omega) h)
     clear hm hob;go_at_call 28
     refine HOC.out.mono ?_;rintro e' w4 ⟨rfl,hb4⟩;have hS2:(fun X=>X.cell? ⟨w.heap.size,1,none⟩=some (.slice bh.A1 b.regions.length bh.c1)/\X.cell? ⟨w.heap.size,2,none⟩=some (.slice bh.A2 b.outl.length bh.c2)/\X.cell? ⟨w.heap.size,3,none⟩=some (.slice bh.A3 b.types.length bh.c3)/\X.cell? ⟨w.heap.size,4,none⟩=some (.slice (some ⟨lb,lo,none⟩) b.locals.length bh.c4)/\X.cell? ⟨g2,o2+i,none⟩=some (.int .i64 (y:Int))/\X.cell? ⟨lb,lo+y * 2+1,none⟩=some (.int .i64 l.type)) w4:=⟨cO hb4 HS3.out.1,cO hb4 HS3.out.2.1,cO hb4 HS3.out.2.2.1,cO hb4 HS3.out.2.2.2.1,cO hb4 HS3.out.2.2.2.2.1,cO hb4 HS3.out.2.2.2.2.2⟩;have HB4:=aF (HB3.out.trans (hb4.mono HB3.out.size));refine hK1.out _ _ (fun _=>hS2) ?_;have hS:=hS2;((refine cR (v:=?_) ?_ hS ?_;rotate_left;(next=>(rintro X ⟨q1,q2,q3,q4,q5,q6⟩;(try simp only [aI]);go_simp;rfl));simp only [aM]))
     refine cZ ?_;clear hS hS2 hb4;go_wp2_with fail
     go_roundw
     case rel=>exact ⟨j+1,by go_num,by omega,HB4,HNJ2⟩
     case measure=>simp [intOf];omega
    ·rw [hob] at HOC;have HF:Hid (q=true):=aF (HQ.out.2 ⟨(y:Int),HYM.out,l,HYG.out,(j:Int),hm,by omega,by omega,hob⟩);clear hm hob;go_at_call 28
     refine HOC.out.mono ?_;rintro e' w4 ⟨rfl,hb4⟩;have hS2:(fun X=>X.cell? ⟨w.heap.size,1,none⟩=some (.slice bh.A1 b.regions.length bh.c1)/\X.cell? ⟨w.heap.size,2,none⟩=some (.slice bh.A2 b.outl.length bh.c2)/\X.cell? ⟨w.heap.size,3,none⟩=some (.slice bh.A3 b.types.length bh.c3)/\X.cell? ⟨w.heap.size,4,none⟩=some (.slice (some ⟨lb,lo,none⟩) b.locals.length bh.c4)/\X.cell? ⟨g2,o2+i,none⟩=some (.int .i64 (y:Int))/\X.cell? ⟨lb,lo+y * 2+1,none⟩=some (.int .i64 l.type)) w4:=⟨cO hb4 HS3.out.1,cO hb4 HS3.out.2.1,cO hb4 HS3.out.2.2.1,cO hb4 HS3.out.2.2.2.1,cO hb4 HS3.out.2.2.2.2.1,cO hb4 HS3.out.2.2.2.2.2⟩;have HB4:=aF (HBA3.out.trans (hb4.mono HBA3.out.size));refine hK1.out _ _ (fun _=>hS2) ?_;have hS:=hS2;((refine cR (v:=?_) ?_ hS ?_;rotate_left;(next=>(rintro X ⟨q1,q2,q3,q4,q5,q6⟩;(try simp only [aI]);go_simp;rfl));simp only [aM]))
     refine cZ ?_;clear hS hS2 hb4;go_wp2_with fail
     go_ret;exact ⟨by rw [HF.out];rfl,HBT.out _ HB4.out⟩
end
section
open Go Go.RowKit Go.Maps
theorem blk7v {w:World} {k:Nat} {a b c d e f z:Value} {t:TypeId} (h:w.heap[k]?=some (.cells #[a,b,c,d,e,f,z] t (0,0))):
 w.cell? ⟨k,0,none⟩=some a/\w.cell? ⟨k,1,none⟩=some b/\w.cell? ⟨k,2,none⟩=some c/\w.cell? ⟨k,3,none⟩=some d/\w.cell? ⟨k,4,none⟩=some e/\w.cell? ⟨k,5,none⟩=some f/\w.cell? ⟨k,6,none⟩=some z/\(∀i,w.frozen? ⟨k,i,none⟩=false):=
 ⟨by rw [cell_of_row w _ 0 _ _ _ h];rfl,by rw [cell_of_row w _ 1 _ _ _ h];rfl,by rw [cell_of_row w _ 2 _ _ _ h];rfl,by rw [cell_of_row w _ 3 _ _ _ h];rfl,by rw [cell_of_row w _ 4 _ _ _ h];rfl,by rw [cell_of_row w _ 5 _ _ _ h];rfl,by rw [cell_of_row w _ 6 _ _ _ h];rfl,fun i=>by simp [World.frozen?,h]⟩
theorem pX (b:Bdy) (bh:BH) (w:World) (H:BdAt w b bh) (hz:NmOk b):
 Calls Tryz.prog 33 #[.agg (bdC b bh).toArray] w fun e' w'=>e' = .returned (.int .i64 (chkB b))/\Below w.heap.size w w':=
 pV b bh w H hz.blks (fun W hb=>vU b bh W (H.keep hb) hz)
  (fun hd _W hb s A0 A B c0 c d h0 h1 h2=>xCY ⟨H.keep hb,eN hd⟩ s A0 A B c0 c d (h0.keep RPj.keeps hb) (h1.keep RPj.keeps hb) (h2.keep ROp.keeps hb))
  (fun hd _W hb t A B C c d f h0 h1 h2 h3=>vN ⟨H.keep hb,eN hd⟩ t A B C c d f (h0.keep RInt.keeps hb) (h1.keep ROp.keeps hb) (h2.keep RPj.keeps hb) h3)
theorem uW (ts:List Ty) (A:Option Addr) (c:Nat) (w:World) (hs:Slc 5 RTy w A c ts):
 Calls Tryz.prog 41 #[.slice A ts.length c] w fun e' w'=>(∃q,e' = .returned (.int .i64 q)/\(q<=0->ts.length<=200))/\Below w.heap.size w w':=by
 have HL:=aF (wT ts A c w hs);have HW:=aF (fun W (hb:Below w.heap.size w W) (hl:ts.length<=200)=>yJ ts A c W (hs.keep RTy.keeps hb) hl);clear hs;obtain ⟨n,hn⟩:∃n,ts.length=n:=⟨_,rfl⟩;rw [hn] at HL HW ⊢;go_enter Tryz.func41,Tryz.ntmps41
 go_wp2_with (first | (go_at_call 70;refine (HW.out _ HB.out (HQ.out (by omega))).mono ?_;rintro e' w2 ⟨⟨q2,rfl⟩,hb2⟩;have HB2:=aF (HB.out.trans (hb2.mono HB.out.size));clear hb2;cases q2) | (go_at_call 69;refine HL.out.mono ?_;rintro e' w1 ⟨⟨q,rfl,hq⟩,hb⟩;have HB:=aF hb;have HQ:=aF hq;clear hb hq))
 all_goals
  go_ret
  first
   | exact ⟨⟨_,rfl,fun h=>absurd h (by omega)⟩,HB2.out⟩
   | exact ⟨⟨_,rfl,fun h=>absurd h (by omega)⟩,HB.out⟩
   | exact ⟨⟨_,rfl,fun _=>HQ.out (by omega)⟩,HB2.out⟩
structure NotSkip (b:Bdy):Prop where
 nm:ShortB b->namesZ b<=3000
 typ:b.types.length<=200
 out:b.outl.length<=200
 reg:b.regions.length<=200
 blk:b.blocks.length<=200
theorem zJ (b:Bdy) (bh:BH) (w:World) (H:BdAt w b bh) (hz:NmOk b):
 Calls Tryz.prog 16 #[.agg (bdC b bh).toArray] w fun e' w'=>(∃q:Int,e' = .returned (.int .i64 q)/\(q<=0->NotSkip b))/\Below w.heap.size w w':=by
 obtain ⟨A1,c1,A2,c2,A3,c3,A4,c4,A5,c5⟩:=bh;have r1:=H.reg.le;have r2:=H.reg.big;have o1:=H.out.le;have o2:=H.out.big;have t1:=H.typ.le;have t2:=H.typ.big;have b1:=H.blk.le;have b2:=H.blk.big;simp only at r1 r2 o1 o2 t1 t2 b1 b2;have HL:Hid (∀W,Below w.heap.size w W->Calls Tryz.prog 40 #[.agg #[Value.string b.name,.slice A1 b.regions.length c1,.slice A2 b.outl.length c2,.slice A3 b.types.length c3,.slice A4 b.locals.length c4,.int .i64 b.args,.slice A5 b.blocks.length c5]] W fun e' w'=>(∃q:Int,e' = .returned (.int .i64 q)/\(q<=0->ShortB b->namesZ b<=3000))/\Below W.heap.size W w'):=aF (fun W hb=>nX b ⟨A1,c1,A2,c2,A3,c3,A4,c4,A5,c5⟩ W (H.keep hb) hz);have HT:=aF (fun W hb=>uW b.types A3 c3 W (H.typ.keep RTy.keeps hb));have HK:=aF (fun W hb=>jU b.types (b.regions.length:Int) A3 c3 W (H.typ.keep RTy.keeps hb));have HD:=aF (fun W hb i hi h64 hok=>tU b.types i A3 c3 W (H.typ.keep RTy.keeps hb) hi h64 hok);have HOK:=aF (fun h=>sU (n:=(b.regions.length:Int)) (ts:=b.types) h);clear H;unfold bdC;simp only;obtain ⟨W,hW⟩:∃W,w.alloc (.cells #[Value.string b.name,.slice A1 b.regions.length c1,.slice A2 b.outl.length c2,.slice A3 b.types.length c3,.slice A4 b.locals.length c4,.int .i64 b.args,.slice A5 b.blocks.length c5] 28)=W:=⟨_,rfl⟩;have HC0:Hid (aA (bdM b A1 c1 A2 c2 A3 c3 A4 c4 A5 c5 []) W w.heap.size):=aF (by rw [<- hW];exact cQ w [Value.string b.name,.slice A1 b.regions.length c1,.slice A2 b.outl.length c2,.slice A3 b.types.length c3,.slice A4 b.locals.length c4,.int .i64 b.args,.slice A5 b.blocks.length c5] 28);have HB0:Hid (Below w.heap.size w W):=aF (by rw [<- hW];exact alF _ _);have HK7:Hid (W.heap[w.heap.size]?=some (.cells #[Value.string b.name,.slice A1 b.regions.length c1,.slice A2 b.outl.length c2,.slice A3 b.types.length c3,.slice A4 b.locals.length c4,.int .i64 b.args,.slice A5 b.blocks.length c5] 28 (0,0))):=aF (by rw [<- hW];exact heap_alloc_new w _);obtain ⟨x0,x1,x2,x3,x4,x5,x6,_⟩:=blk7v HK7.out;change Calls _ _ #[.agg #[Value.string b.name,.slice A1 b.regions.length c1,.slice A2 b.outl.length c2,.slice A3 b.types.length c3,.slice A4 b.locals.length c4,.int .i64 b.args,.slice A5 b.blocks.length c5]] _ _;go_enter Tryz.func16,Tryz.ntmps16
 go_wp2_with fail
 go_at_call 40
 refine (HL.out W HB0.out).mono ?_;rintro e' w1 ⟨⟨q,rfl,hq⟩,hb⟩;have HCC:=aF (cP HC0.out hb);have HB:=aF (keep0 hb HB0.out);have HQ:=aF hq;clear hb hq HC0 HB0 HL x0 x1 x2 x3 x4 x5 x6;by_cases hq1:0<q
 ·go_wp2_with fail
  all_goals (go_ret;exact ⟨⟨_,rfl,fun h=>absurd h (by omega)⟩,HB.out⟩)
 have hq2:q<=0:=by omega
 have HN:=aF (HQ.out hq2);obtain ⟨y0,y1,y2,y3,y4,y5,y6⟩:=aS HCC.out;go_wp2_with fail
 go_at_call 41
 refine (HT.out w1 HB.out).mono ?_;rintro e' w2 ⟨⟨p,rfl,hp⟩,hb⟩;replace HCC:=aF (cP HCC.out hb);replace HB:=aF (keep0 hb HB.out);have HP:=aF hp;clear hb hp HT HQ hq1 y0 y1 y2 y3 y4 y5 y6;by_cases hq1:0<p
 ·go_wp2_with fail
  all_goals (go_ret;exact ⟨⟨_,rfl,fun h=>absurd h (by omega)⟩,HB.out⟩)
 have hp2:p<=0:=by omega
 have HTL:=aF (HP.out hp2);obtain ⟨y0,y1,y2,y3,y4,y5,y6⟩:=aS HCC.out;by_cases g1:200<b.outl.length
 ·go_wp2_with fail
  all_goals (go_ret;exact ⟨⟨_,rfl,fun h=>absurd h (by omega)⟩,HB.out⟩)
 by_cases g2:200<b.regions.length
 ·go_wp2_with fail
  all_goals (go_ret;exact ⟨⟨_,rfl,fun h=>absurd h (by omega)⟩,HB.out⟩)
 by_cases g3:200<b.blocks.length
 ·go_wp2_with fail
  all_goals (go_ret;exact ⟨⟨_,rfl,fun h=>absurd h (by omega)⟩,HB.out⟩)
 have HNS:Hid (NotSkip b):=aF ⟨HN.out,HTL.out,by omega,by omega,by omega⟩;go_wp2_with fail
 go_at_call 42
 refine (HK.out w2 HB.out).mono ?_;rintro e' w3 ⟨rfl,hb⟩;replace HCC:=aF (cP HCC.out hb);replace HB:=aF (keep0 hb HB.out);clear hb y0 y1 y2 y3 y4 y5 y6;by_cases hty:typesC (b.regions.length:Int) b.types=0
 case neg=>
  generalize typesC (b.regions.length:Int) b.types=ty at *;go_wp2_with fail
  all_goals (go_ret;exact ⟨⟨_,rfl,fun _=>HNS.out⟩,HB.out⟩)
 rw [hty];have HDP:=aF (HOK.out hty);have HTL2:=HTL.out;clear hty HK HOK;obtain ⟨y0,y1,y2,y3,y4,y5,y6⟩:=aS HCC.out;go_wp2_with fail
 clear y0 y1 y2 y3 y4 y5 y6;go_loopw [41] (fun i wr=>∃k:Nat,k<=b.types.length/\i = .int .i64 k/\Hid (aA (bdM b A1 c1 A2 c2 A3 c3 A4 c4 A5 c5 []) wr w.heap.size)/\Hid (Below w.heap.size w wr)) (fun i _=>b.types.length - (intOf i).toNat)
 case atStart=>exact ⟨0,by omega,rfl,HCC,HB⟩
 case round=>
  clear HCC HB;obtain ⟨k,hk,rfl,HCC,HB⟩:=hrel;by_cases hlt:k<b.types.length
  ·obtain ⟨y0,y1,y2,y3,y4,y5,y6⟩:=aS HCC.out;go_wp2_with fail
   go_at_call 43
   refine (HD.out wr HB.out k hlt (by omega) HDP.out).mono ?_;rintro e' w4 ⟨⟨d,rfl⟩,hb⟩;have HC4:=aF (cP HCC.out hb);have HB4:=aF (keep0 hb HB.out);clear hb;by_cases hd:8<d
   ·go_wp2_with fail
    go_ret;exact ⟨⟨_,rfl,fun h=>absurd h (by omega)⟩,HB4.out⟩
   ·go_wp2_with fail
    go_roundw
    case rel=>exact ⟨k+1,by omega,by go_num,HC4,HB4⟩
    case measure=>simp [intOf];omega
  ·go_wp2_with fail
   go_ret;exact ⟨⟨_,rfl,fun _=>HNS.out⟩,HB.out⟩
end
section
open Go Go.RowKit
attribute [local irreducible] Calls
structure Ok12 (b:Bdy):Prop where
 ns:NotSkip b
 chk:chkB b=0
 cnt:cntB b.blocks<=60
 loc:b.locals.length<=20
 reg:b.regions.length<=10
theorem xN {b:Bdy} (h:chkB b=0) (hb:b.blocks.length<=200):cntB b.blocks<=13107200:=by
 rw [<- fR];have S:=xR h;have h1:=xDX (l:=b.blocks) (m:=65535) (fun x hx=>(S.blks x hx).1);omega
end
section
open Go.RowKit
variable {F:Fence} {n:Nat} {P:Program}
def SeqM {α : Type} (F:Fence) (n:Nat) (P:Program) (g:Nat) (lb:Array Value) (encs : α -> Array Value) (T:TypeId->Bool) (N:Nat->Prop) (Nx:List α -> α -> Prop) (Fin:List α -> Prop) (w:World):Prop:=
 ∀(l:Nat) (J Jx:List α -> World->Prop) (W:World),Below w.heap.size w W->
  (∀s A B,J s A->Turn W.heap.size T A B->J s B)->(∀s A B,Jx s A->Turn W.heap.size T A B->Jx s B)->
  (∀pre x W1,Nx pre x->J pre W1->YieldAt F (n - 1) P l (encs x) W1 fun e W'=>
    (e = .returned (.bool true)/\J (pre ++ [x]) W'/\Kb N W.heap.size T W1 W')\/(e = .returned (.bool false)/\Jx (pre ++ [x]) W'))->
  J [] W->
  CallsIn F n P g (#[.func (.yield l) #[] #[]] ++ lb) W fun e W'=>(∃v,e = .returned v)/\((∃L,Fin L/\J L W')\/∃pre x,Nx pre x/\Jx (pre ++ [x]) W')
theorem xKU {α : Type} {g:Operand} {ps:Array Tmp} {assign body:Code} {Q:Exit->Act->World->Prop} {a:Act} {w:World}
 (hro:F.round=none) (h1:1<=n) {gf:Nat} {lb:Array Value} (hg:a.eval g = .func (.func gf) #[] lb) (hFg:F.fn gf) (eg:∀args w,(callFunc gf args).run P w = .ok (.enter gf args) w)
 {encs : α -> Array Value} {T:TypeId->Bool} {N:Nat->Prop} {Nx:List α -> α -> Prop} {Fin:List α -> Prop} {w0:World} (hseq:SeqM F (n - 1) P gf lb encs T N Nx Fin w0) (hb0:Below w0.heap.size w0 w) (hNl:∀k,N k->k<w.heap.size) (hps:∀x,(encs x).size=ps.size)
 (I:List α -> World->Prop) (Ix:Code->List α -> World->Prop) (hI:∀s A B,I s A->Turn w.heap.size T A B->I s B) (hIx:∀c s A B,Ix c s A->Turn w.heap.size T A B->Ix c s B) (h0:I [] w)
 (hround:∀(l:Nat) (pre:List α) (x : α) (W:World),Nx pre x->w.heap.size<=l->(∃r,W.heap[l]?=some (.loop r))->w.heap.size<=W.heap.size->I pre W->
   assign.wpIn (F.inRound l) (n - 1 - 1) P (Exit.then (fun a' W'=>Kb N w.heap.size T W W'/\∀W'',Rec l W' W''->body.wpIn (F.inRound l) (n - 1 - 1) P (rPost N w.heap.size T I Ix (pre ++ [x]) W'') a' W'') (fun _ _ _=>False))
    { tmps:=(ps.zip (encs x)).foldl (fun t (p,v)=>t.setIfInBounds p v) a.tmps,defers:=[] } W)
 (hdone:∀(D:Nat) (L:List α) (W:World),w.heap.size<=D->Fin L->I L W->W.heap[D]?=some (.deferred (some []))->Q .normal { a with defers:={ target:= .collected D,args:= #[] } :: a.defers } W)
 (hstop:∀(D:Nat) (c:Code) (pre:List α) (x : α) (W:World),w.heap.size<=D->Nx pre x->Ix c (pre ++ [x]) W->W.heap[D]?=some (.deferred (some []))->c.wpIn F n P Q { a with defers:={ target:= .collected D,args:= #[] } :: a.defers } W):
 (Code.rangeFunc g ps assign body).wpIn F n P Q a w:=by
 refine wpIn_rangeFunc ?_;intro fn hfn;rw [hro];obtain ⟨rec,hrec⟩:∃rec:LoopState->Option Code->Loop,rec=fun st pe=>{ state:=st,pending:=pe,fn,tmps:=a.tmps,params:=ps,assign,body,defers:=w.heap.size }:=⟨_,rfl⟩
 obtain ⟨W1,hW1⟩:∃W1,(w.alloc (.deferred (some []))).alloc (.loop (rec .ready none))=W1:=⟨_,rfl⟩
 have hL1:W1.heap[w.heap.size+1]?=some (.loop (rec .ready none)):=by
  rw [<- hW1];have:=World.alloc_heap_new (w.alloc (.deferred (some []))) (.loop (rec .ready none));rwa [bI] at this
 have hK1:W1.heap[w.heap.size]?=some (.deferred (some [])):=by
  rw [<- hW1];exact (Below.heap_alloc _ _ _ (by simp)).trans (World.alloc_heap_new w _)
 have hbw:Below w.heap.size w W1:=by rw [<- hW1];exact ((aX _ w).alloc (aY _) _).alloc (by simp) _
 have hI1:I [] W1:=hI _ _ _ h0 (Turn.of_below hbw);have hb1:Below w0.heap.size w0 W1:=hb0.trans (hbw.mono hb0.size);have hsz:W1.heap.size=w.heap.size+2:=by rw [<- hW1];simp
 refine ⟨w.heap.size+1,[{ target:= .collected w.heap.size,args:= #[] }],W1,{ target:= .fn (.func gf) lb,args:= #[.func (.yield (w.heap.size+1)) #[] #[]] },W1,gf,
  #[.func (.yield (w.heap.size+1)) #[] #[]] ++ lb,W1,?_,?_,?_,?_,fun _=>h1,?_⟩
 ·rw [<- hW1,hrec];exact run_enterLoop_outer _ _ _ _ _
 ·simp only [resolve,hg];simp [go_sem]
 ·intro f' hf';simp [Target.leads] at hf';subst hf';exact hFg
 ·simp [invoke,go_sem,eg]
 ·refine (hseq (w.heap.size+1)
   (fun pre W=>I pre W/\W.heap[w.heap.size+1]?=some (.loop (rec .ready none))/\W.heap[w.heap.size]?=some (.deferred (some []))/\w.heap.size+2<=W.heap.size)
   (fun pre W=>∃c,Ix c pre W/\W.heap[w.heap.size+1]?=some (.loop (rec .done (some c)))/\W.heap[w.heap.size]?=some (.deferred (some [])))
   W1 hb1
   (fun s A B hs ht=>⟨hI s A B hs.1 (ht.mono (by omega)),ht.block_low (by omega) hs.2.1,ht.block_low (by omega) hs.2.2.1,bX hs.2.2.2 ht.size⟩)
   (fun s A B hs ht=>by
     obtain ⟨c,hc,hl,hk⟩:=hs
     exact ⟨c,hIx c s A B hc (ht.mono (by omega)),ht.block_low (by omega) hl,ht.block_low (by omega) hk⟩)
   ?_ ⟨hI1,hL1,hK1,by omega⟩).mono ?_
  ·rintro pre x W hL ⟨hi,hl,hk,hws⟩;have hy:=run_yield (P:=P) (args:=encs x) hl (by rw [hrec];exact hps x);rw [hrec] at hy;refine ⟨fn,_,assign,body,hy,roundIn_of_wpIn hfn (wpIn_mono (hround _ pre x W hL (by omega) ⟨_,hl⟩ (by omega) hi) ?_)⟩;clear hy;rintro e a1 Wa hq;cases e with
   | normal=>
     obtain ⟨hka,hbody⟩:=hq;have hla:=hka.same _ _ (by omega) hl rfl;have hkk:=hka.same _ _ (aY _) hk rfl;refine ⟨_,run_beginRound hla (by rw [hrec]),wpIn_mono (hbody _ (xCZ _ hla)) ?_⟩;have hlb:(Wa.putObj (w.heap.size+1) (.loop { rec .ready none with state:= .busy })).heap[w.heap.size+1]?=some (.loop { rec .ready none with state:= .busy }):=World.putObj_heap_same (Array.getElem?_eq_some_iff.1 hla).1;have hkb:(Wa.putObj (w.heap.size+1) (.loop { rec .ready none with state:= .busy })).heap[w.heap.size]?=some (.deferred (some [])):=(World.putObj_heap_other (by omega)).trans hkk;have hsb:w.heap.size+2<=(Wa.putObj (w.heap.size+1) (.loop { rec .ready none with state:= .busy })).heap.size:=by simp;exact bX hws hka.size
     have fin:∀(jump:Option Code) (W3:World),Kb N w.heap.size T (Wa.putObj (w.heap.size+1) (.loop { rec .ready none with state:= .busy })) W3->
      (Instr.endRound (w.heap.size+1) jump).run P W3 = .ok (.bool jump.isNone) (W3.putObj (w.heap.size+1) (.loop (rec (if jump.isNone then .ready else .done) jump)))/\
      W3.heap[w.heap.size+1]?=some (.loop { rec .ready none with state:= .busy })/\
      (W3.putObj (w.heap.size+1) (.loop (rec (if jump.isNone then .ready else .done) jump))).heap[w.heap.size+1]?=some (.loop (rec (if jump.isNone then .ready else .done) jump))/\
      (W3.putObj (w.heap.size+1) (.loop (rec (if jump.isNone then .ready else .done) jump))).heap[w.heap.size]?=some (.deferred (some []))/\
      Kb N W1.heap.size T W (W3.putObj (w.heap.size+1) (.loop (rec (if jump.isNone then .ready else .done) jump)))/\
      w.heap.size+2<=(W3.putObj (w.heap.size+1) (.loop (rec (if jump.isNone then .ready else .done) jump))).heap.size:=fun jump W3 hk3=>by
      have hl3:=hk3.same _ _ (by omega) hlb rfl;have hr:=run_endRound (P:=P) jump hl3;rw [hrec] at hr hl3 ⊢
      have kput:∀(X:World) (o o':Obj),X.heap[w.heap.size+1]?=some o->Kb N W1.heap.size T X (X.putObj (w.heap.size+1) o'):=fun X o o' hX=>
       ⟨rfl,rfl,rfl,by simp,fun k hk _=>World.putObj_heap_other (by have:=hNl k hk;omega),fun k o1 hk hX1 _=>(World.putObj_heap_other (by omega)).trans hX1⟩
      rw [hrec] at hk3 hla;refine ⟨hr,hl3,World.putObj_heap_same (Array.getElem?_eq_some_iff.1 hl3).1,(World.putObj_heap_other (by omega)).trans (hk3.same _ _ (aY _) (by rw [hrec] at hkb;exact hkb) rfl),?_,?_⟩
      ·exact (((hka.mono (by omega)).trans (kput _ _ _ hla)).trans (hk3.mono (by omega))).trans (kput _ _ _ hl3)
      ·have h5:=hk3.size;rw [World.putObj_size] at h5 ⊢;exact bX (by rw [World.putObj_size] at hsb;exact hsb) h5
     rintro e a3 W3 hp;cases e with
     | normal=>
       obtain ⟨hk3,hi3⟩:=hp;obtain ⟨hr,hl3,hl4,hk4,hk5,hs5⟩:=fin none W3 hk3;exact ⟨_,_,hr,.inl ⟨rfl,⟨hI _ _ _ hi3 (Turn.putObj _ hl3 (by omega) rfl),hl4,hk4,hs5⟩,hk5⟩⟩
     | ret=>
       obtain ⟨hk3,hi3⟩:=hp;obtain ⟨hr,hl3,hl4,hk4,hk5,hs5⟩:=fin (some .ret) W3 hk3;exact ⟨_,_,hr,.inr ⟨rfl,.ret,hIx _ _ _ _ hi3 (Turn.putObj _ hl3 (by omega) rfl),hl4,hk4⟩⟩
     | exit id=>
       obtain ⟨hk3,hi3⟩:=hp;obtain ⟨hr,hl3,hl4,hk4,hk5,hs5⟩:=fin (some (.exit id)) W3 hk3;exact ⟨_,_,hr,.inr ⟨rfl,.exit id,hIx _ _ _ _ hi3 (Turn.putObj _ hl3 (by omega) rfl),hl4,hk4⟩⟩
     | goto t=>
       obtain ⟨hk3,hi3⟩:=hp;obtain ⟨hr,hl3,hl4,hk4,hk5,hs5⟩:=fin (some (.goto t)) W3 hk3;exact ⟨_,_,hr,.inr ⟨rfl,.goto t,hIx _ _ _ _ hi3 (Turn.putObj _ hl3 (by omega) rfl),hl4,hk4⟩⟩
     | panic ch=>exact hp.elim
     | outgrown=>exact hp.elim
   | exit id=>exact hq.elim
   | goto t=>exact hq.elim
   | ret=>exact hq.elim
   | panic chain=>exact hq.elim
   | outgrown=>exact hq.elim
  ·rintro e W2 ⟨⟨v,rfl⟩,(⟨L,hF,hi,hl,hk,_⟩ | ⟨pre,x,hL,c,hi,hl,hk⟩)⟩
   ·exact ⟨none,_,by have:=run_endLoop (P:=P) hl (by rw [hrec];simp);rw [hrec] at this;exact this,hdone _ _ _ (aY _) hF (hI _ _ _ hi (Turn.putObj _ hl (by omega) rfl)) ((World.putObj_heap_other (by omega)).trans hk)⟩
   ·exact ⟨some c,_,by have:=run_endLoop (P:=P) hl (by rw [hrec];simp);rw [hrec] at this;exact this,hstop _ c pre x _ (aY _) hL (hIx c _ _ _ hi (Turn.putObj _ hl (by omega) rfl)) ((World.putObj_heap_other (by omega)).trans hk)⟩
end
section
open Go Go.RowKit
attribute [local irreducible] Calls
theorem Ok12.sml {b:Bdy} (h:Ok12 b) {p z:Int} (hz:z∈usP b.blocks p):0<=z/\z<((1000000:Nat):Int):=by
 have:=xEG h.chk hz;have h2:=h.loc;unfold LocIn at this;omega
end
section
open Go Go.RowKit
attribute [local irreducible] Calls
def locU (b:Bdy):List Int:=(List.range b.locals.length).map (fun (i:Nat)=>(i:Int))
theorem xLY {b:Bdy} {z:Int} (h:LocIn b z):z∈locU b:=by
 unfold LocIn at h;unfold locU;rw [xIL];exact ⟨z.toNat,List.mem_range.2 (by omega),by omega⟩
theorem Ok12.targets {b:Bdy} (h:Ok12 b):∀x∈b.blocks,x.term.targets.length<=1000000000000:=fun x hx=>by
 have:=(xR h.chk).blks x hx;omega
theorem Ok12.uses {b:Bdy} (h:Ok12 b):∀p,∀z∈usP b.blocks p,z∈locU b/\Sml z:=fun _p _z hz=>⟨xLY (xEG h.chk hz),h.sml hz⟩
theorem Ok12.ulen {b:Bdy} (h:Ok12 b):(locU b).length<=1000:=by
 have:=h.loc;unfold locU;simp;omega
def LocQ (b:Bdy) (w:World) (e':Ending) (w':World):Prop:=∃A c ll,e' = .returned (.slice A ll.length c)/\ll.length=cntB b.blocks/\(∀(k:Nat) (l:List Int),ll[k]?=some l->Srt l (fun z=>Lv b.blocks z (k:Int)))/\Slc 1 (RSl 1 RInt) w' A c ll/\Below w.heap.size w w'
theorem xLD (b:Bdy) (bh:BH) (w:World) (H:BdAt w b bh) (h:Ok12 b):Calls Tryz.prog 21 #[.agg (bdC b bh).toArray] w (LocQ b w):=
 qA b bh w (locU b) H (by have:=h.cnt;omega) (by have:=h.ns.blk;omega) h.targets h.uses h.ulen
theorem xLC (b:Bdy) (bh:BH) (w:World) (H:BdAt w b bh) (h:Ok12 b):Calls Tryz.prog 26 #[.agg (bdC b bh).toArray] w (LocQ b w):=
 xKW b bh w H (by have:=h.cnt;omega) (fun p z hz=>h.sml hz) (fun p z hz=>lv_in h.chk hz) (by have:=h.loc;omega)
end
end Go.Proofs.YtcfchohkmkilpaaGreatDoor
