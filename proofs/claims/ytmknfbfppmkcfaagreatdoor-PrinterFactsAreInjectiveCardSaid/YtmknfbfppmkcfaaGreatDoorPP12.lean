/-
  Parts of the proof: Y5 Y6 Y6O Y6I Y7 Y10 Y11 Y8 Y9 Y6S Y6P A2.
-/
import Derived.Test.YtmknfbfppmkcfaaGreatDoorPP0
import Derived.Test.YtmknfbfppmkcfaaGreatDoorPP11
import Derived.Test.YtmknfbfppmkcfaaGreatDoorSj
import Derived.Test.YtmknfbfppmkcfaaGreatDoorPP5
import Derived.Test.YtmknfbfppmkcfaaGreatDoorPP6
import Derived.Test.YtmknfbfppmkcfaaGreatDoorPP2
import Derived.Test.YtmknfbfppmkcfaaGreatDoorPP7
import Derived.Test.YtmknfbfppmkcfaaGreatDoorPP3
import Derived.Test.YtmknfbfppmkcfaaGreatDoorPP1
import Derived.Lib.AppendIntMem
import Derived.Lib.AppendStr
import Derived.Lib.Builder
namespace Go.Proofs.YtmknfbfppmkcfaaGreatDoor
set_option maxRecDepth 100000
set_option maxHeartbeats 16000000
section
open Go Go.RowKit
def PowTab (w : World) : Prop := Lib.TabIs Tryz.prog w "internal/strconv.uint64pow10" .u64 Lib.pow10Tab
theorem gPow : Tryz.prog.globalNamed "internal/strconv.uint64pow10" = some 5 := by kernel_rfl
theorem PowTab.keep {w w':World} (h:PowTab w) (hb:Below w.heap.size w w'):PowTab w':=by
 unfold PowTab Lib.TabIs World.var? at *;rw [gPow,Option.bind_some] at h ⊢;by_cases h1:5<w.heap.size
 ·rw [hb.block 5 h1];exact h
 ·rw [Array.getElem?_eq_none (by omega)] at h;cases h
theorem iG {w w':World} (h:∃k os,w'=Go.Sort.grow (w.drewN k) os):Below w.heap.size w w':=by
 obtain ⟨k,os,rfl⟩:=h;exact Lib.below_grow _ _ (aY _) _ _
theorem index_any' (s:List UInt8) (n:Int) (h0 : -9223372036854775808<=n) (h1:n<=9223372036854775807) (hs:s.length<=10) (w:World) (ht:PowTab w):
 Calls Tryz.prog 34 #[.string ⟨s.toArray⟩,.int .i64 n] w fun e' w'=>e' = .returned (tx (s ++ Lib.itoa n))/\Below w.heap.size w w':=by
 have HT:=aF ht;clear ht;have hl:=Lib.itoa_length_le n h0 h1;obtain ⟨t,hte⟩:∃t,Lib.itoa n=t:=⟨_,rfl⟩;have HI:=aF (Tryz.strconv_Itoa n h0 h1 w HT.out);rw [hte] at hl HI ⊢;have hz:¬(9223372036854775807<s.length+t.length):=by omega
 have ea:=fH s t;clear hl hte hs;go_enter Tryz.func34,Tryz.ntmps34
 go_wp2_with (go_at_call 77;refine HI.out.mono ?_;rintro e' w1 ⟨rfl,hb1⟩)
 go_ret;exact ⟨rfl,iG hb1⟩
theorem fE (rs:List ByteArray) (g:Nat) (A:Option Addr) (c:Nat) (i:Int) (w:World) (hc:w.cell? ⟨g,3,none⟩=some (.slice A rs.length c)) (H:Slc 1 RN w A c rs) (hi:okI rs.length i) (hz:Sm (rgP rs i)):
 Calls Tryz.prog 33 #[.pointer (some ⟨g,0,none⟩),.int .i64 i] w fun e' w'=>e' = .returned (tx (39 :: rgP rs i))/\w'=w:=by
 obtain ⟨k,rfl⟩:=bG hi.1;have hk:k<rs.length:=by have:=hi.2;omega
 obtain ⟨bb,oo,rfl,hbb,hx⟩:=H.sl.at_ hk;have hle:=H.le;have hbig:=H.big;have e:rgP rs (k:Int)=bl rs[k]:=by unfold rgP;rw [bW,bD hk];rfl
 rw [e] at hz ⊢;rw [jG rs[k]] at hx;have x0:w.cell? ⟨bb,oo+k,none⟩=some (.string ⟨(bl rs[k]).toArray⟩):=by have:=hx;unfold RN at this;rw [Nat.mul_one] at this;exact this
 generalize bl rs[k]=t at *;have hz0:¬(9223372036854775807<1+t.length):=by have:=hz;omega
 have ea:=ba_r #[39] t;clear hx e hz H hi;go_enter Tryz.func33,Tryz.ntmps33
 go_wp2_with fail
 go_ret;exact ⟨rfl,rfl⟩
theorem eN (ls:List Lc) (g:Nat) (A4:Option Addr) (c4:Nat) (p:Plc) (A:Option Addr) (c:Nat) (w:World) (hc:w.cell? ⟨g,6,none⟩=some (.slice A4 ls.length c4)) (H:Slc 2 RLc w A4 c4 ls) (hp:Slc 2 RPj w A c p.proj)
 (hl:okI ls.length p.loc) (hf:∀x∈p.proj,fitJ x) (hz:Sm (placeP ls p)) (ht:PowTab w):
 Calls Tryz.prog 48 #[.pointer (some ⟨g,0,none⟩),.agg #[.int .i64 p.loc,.slice A p.proj.length c]] w fun e' w'=>e' = .returned (tx (placeP ls p))/\Below w.heap.size w w':=by
 obtain ⟨i,ps⟩:=p;simp only at hp hl hf ⊢;obtain ⟨k,rfl⟩:=bG hl.1;have hk:k<ls.length:=by have:=hl.2;omega
 obtain ⟨bb,oo,rfl,hbb,hx⟩:=H.sl.at_ hk;have hle:=H.le;have hbig:=H.big;have hle2:=hp.le;have hbig2:=hp.big;have HP:=aF hp;have HF:=aF hf;have HT:=aF ht;obtain ⟨nm,hnm⟩:∃nm:List UInt8,bl (ls[k]).name=nm:=⟨_,rfl⟩;have x0:w.cell? ⟨bb,oo+k * 2,none⟩=some (tx nm):=by rw [<- hnm];have:=hx.1;rw [jG (ls[k]).name] at this;exact this
 obtain ⟨R,hR⟩:∃R,placeP ls ⟨k,ps⟩=R:=⟨_,rfl⟩;rw [hR] at hz ⊢;have HR:Hid (R=37 :: (nm ++ pjsP ps)):=aF (by rw [<- hR];unfold placeP;simp only;rw [nm_at hk,hnm])
 have hz0:¬(9223372036854775807<1+nm.length):=by
  have:=congrArg List.length HR.out;rw [bK,bB] at this;omega
 have HZ:=aF hz;have HN:=aF (fun (x:Pj) (hx:fitJ x) W (hb:Below w.heap.size w W)=>index_any' [46] x.field hx.1 hx.2 (by simp) W (HT.out.keep hb));have e1:=ba_r #[37] nm;have hg:g<w.heap.size:=cD w _ hc;clear hR hx hnm hp hf hl hz H ht;go_enter Tryz.func48,Tryz.ntmps48
 go_wp2_with fail
 go_quiet (fail)
 go_wp2_with fail
 go_loopw [5,7,22] (fun s q v wr=>∃(l:List UInt8) (j:Nat),s=tx l/\q=q/\v = .int .i64 j/\j<=ps.length/\Hid (R=l ++ pjsP (ps.drop j))/\Hid (Below w.heap.size w wr)) (fun _ _ v _=>ps.length - (intOf v).toNat)
 case atStart=>exact ⟨37 :: nm,0,rfl,rfl,rfl,Nat.zero_le _,aF (by rw [HR.out];rfl),aF (aG ((aX _ _).alloc (aY _) _) _)⟩
 case round=>
  obtain ⟨l,j,rfl,_,rfl,hj,HG,HB⟩:=hrel;clear x0 hz0 e1 hc hg hbb;by_cases hlt:j<ps.length
  case neg=>
   have HE:Hid (R=l):=aF (by rw [HG.out,bE (by omega)];simp [pjsP]);clear HG;go_wp2_with fail
   go_ret;exact ⟨by rw [HE.out];rfl,HB.out⟩
  case pos=>
   have hd:=cS hlt;obtain ⟨b1,o1,rfl,hb1,z0,z1⟩:=(HP.out.keep RPj.keeps HB.out).sl.at_ hlt;have hfx:fitJ ps[j]:=HF.out _ (bN hlt);obtain ⟨x,hx⟩:∃x,ps[j]=x:=⟨_,rfl⟩;rw [hx] at hd z0 z1 hfx;obtain ⟨m,f⟩:=x;have HX:=aF (HN.out ⟨m,f⟩ hfx);have HL:Hid (R=l ++ (pjP ⟨m,f⟩ ++ pjsP (ps.drop (j+1)))):=aF (by rw [HG.out,hd];rfl);simp only at z0 z1 HX;have hbs:=cY hb1;clear HG hd hx;obtain ⟨t,ht⟩:∃t,Lib.itoa f=t:=⟨_,rfl⟩;have hj1:(j:Int)+1<=9223372036854775807:=by omega
   rcases Decidable.em (m=0) with rfl | hm
   ·have HQ:Hid (R=(l ++ [46,42]) ++ pjsP (ps.drop (j+1))):=aF (by rw [HL.out];simp [pjP])
    have hs1:¬(9223372036854775807<l.length+2):=by
     have:=congrArg List.length HQ.out;have:=HZ.out;simp only [bB,bK,bP] at *;omega
    have ea:=ba_l l #[46,42];clear HL ht HX;go_wp2_with fail
    exact ⟨⟨l ++ [46,42],j+1,rfl,trivial,by go_num,by omega,HQ,aF (by have hb0:=HB.out;have hb2:=hb0.size;exact aH)⟩,by simp [intOf];omega⟩
   ·have HQ:Hid (R=(l ++ 46 :: t) ++ pjsP (ps.drop (j+1))):=aF (by rw [HL.out];simp [pjP,hm,ht])
    have hs1:¬(9223372036854775807<l.length+(t.length+1)):=by
     have:=congrArg List.length HQ.out;have:=HZ.out;simp only [bB,bK] at *;omega
    have ea:(⟨l.toArray⟩:ByteArray) ++ ⟨(46 :: t).toArray⟩=⟨(l ++ 46 :: t).toArray⟩:=fH l (46 :: t);have em:(m == 0)=false:=by simp [hm]
    rw [ht] at HX;clear HL ht hm;have HBA:=aF (fun (o:Obj)=>(HB.out.alloc HB.out.size o));go_wp2_with (go_at_call 34;refine (HX.out _ (HBA.out _)).mono ?_;rintro e' w1 ⟨rfl,hb2⟩)
    exact ⟨⟨l ++ 46 :: t,j+1,rfl,trivial,by go_num,by omega,HQ,aF ((HBA.out _).trans (hb2.mono (HBA.out _).size))⟩,by simp [intOf];omega⟩
theorem lT:(Tryz.prog.info? 9).map (fun i=>(i.zero,i.size,i.bytes))=some (some (.string { data:= #[] }),1,16):=by kernel_rfl
abbrev ba (l:List UInt8):ByteArray:=⟨l.toArray⟩
theorem gQ {W:World} {base:Nat} {v:Value} {acc:List (List UInt8)} {n:Nat} (ho:W.ownsRow base 9 1 v n (acc.map tx)) (hn:n=acc.length) (hz:Sm (comP acc)) (hl:acc.length<=1000000):
 Calls Tryz.prog 73 #[v,.string ⟨#[44,32]⟩] W fun e' w'=>e' = .returned (tx (comP acc))/\Below W.heap.size W w':=by
 subst hn
 have hb:(acc.map ba).map (·.data.toList)=acc:=by
  rw [List.map_map];exact (List.map_congr_left (fun x _=>rfl)).trans (List.map_id acc)
 rcases ho.2 with ⟨rfl,h0⟩ | ⟨g,cap,cur,rfl,_,hgg,hc,_,_,_⟩
 ·obtain rfl:=bV h0;exact (Tryz.strings_Join_none none 0 ⟨#[44,32]⟩ W).mono fun e' w' h=>⟨h.1,h.2 ▸ aX _ _⟩
 ·have hj:=Tryz.strings_Join g 0 cap (acc.map ba) ⟨#[44,32]⟩ W (fun j x hx=>by
   have:=ho.cells (g:=g) rfl j (.string x) (by
    rw [cI] at hx ⊢;cases hy:acc[j]? with
    | none=>rw [hy] at hx;cases hx
    | some y=>
      rw [hy] at hx;simp at hx;subst hx
      rfl)
   rw [add0] at this;rw [Nat.zero_add]
   exact this) (Array.getElem?_eq_some_iff.1 hgg).1 (by rw [cF];omega) (by rw [cF];simpa using hc) (by
    rw [hb];have:=hz;show (Lib.join acc [44,32]).length<=_
    exact this)
  rw [hb,cF] at hj;exact hj
theorem mC (w:World) (x:List UInt8):∀j u,[tx x][j]?=some u->(w.alloc (.cells #[tx x] 9)).cell? ((⟨w.heap.size,0,none⟩:Addr).add j)=some u:=fun j u hj=>by
 rw [add0];exact rD w [tx x] 9 j u hj
theorem mB (x:List UInt8):∀u∈[tx x],u.oneCell'=true:=fun u hu=>by simp at hu;subst hu;rfl
theorem jV {l:List (List UInt8)}:∀x∈l,x.length<=(comP l).length:=by
 induction l with
 | nil=>intro x hx;cases hx
 | cons a l ih=>
   intro x hx;rw [comP,Lib.join];cases l with
   | nil=>
     rw [List.mem_singleton.1 hx];simp [List.intercalate]
   | cons b l=>
     have e:(List.intercalate [44,32] (a :: b :: l)).length=a.length+2+(comP (b :: l)).length:=by
      simp [comP,Lib.join,List.intercalate];omega
     rw [e];rcases List.mem_cons.1 hx with rfl | hx
     ·omega
     ·have:=ih x hx;omega
theorem sH (q:Nat) (f:Opd->List UInt8) (xs:List Opd) (A:Option Addr) (c:Nat) (w:World) (H:Slc 4 ROp w A c xs) (hz:Sm (comP (xs.map f))) (hl:xs.length<=1000000)
 (hF:∀x∈xs,∀W,Below w.heap.size w W->∀A0 c0,Slc 2 RPj W A0 c0 x.place.proj->Calls Tryz.prog 134 #[.pointer (some ⟨q,0,none⟩),.agg #[.int .i64 x.kind,.int .i64 x.place.loc,.slice A0 x.place.proj.length c0,.int .i64 x.n]] W fun e' w'=>e' = .returned (tx (f x))/\Below W.heap.size W w'):
 Calls Tryz.prog 133 #[.slice A xs.length c,.func (.func 134) #[.pointer (some ⟨q,0,none⟩)] #[]] w fun e' w'=>e' = .returned (tx (comP (xs.map f)))/\Below w.heap.size w w':=by
 obtain ⟨iS,iS0,iS1,iS2,iS3⟩:=info_parts lT;have hle:=H.le;have hbig:=H.big;have HS:=aF H;have HF:=aF hF;have HZ:=aF hz;clear H hF hz;go_enter Tryz.func133,Tryz.ntmps133
 go_wp2_with fail
 go_loopw [5,7,10] (fun v q i wr=>∃(k:Nat) (acc:List (List UInt8)),k<=xs.length/\i = .int .i64 k/\q=q/\acc.length=k/\Hid (acc=(xs.take k).map f)/\Hid (wr.ownsRow w.heap.size 9 1 v k (acc.map tx))/\Hid (Below w.heap.size w wr)) (fun _ _ i _=>xs.length - (intOf i).toNat)
 case atStart=>exact ⟨0,[],by omega,rfl,rfl,rfl,aF rfl,aF (World.ownsRow_nil _ _ _ _),aF (aX _ _)⟩
 case round=>
  obtain ⟨k,acc,hk,rfl,_,hal,HA,HO,HB⟩:=hrel;have hsz:=HB.out.size;by_cases hlt:k<xs.length
  ·obtain ⟨b,o,rfl,hb,y⟩:=(HS.out.keep ROp.keeps HB.out).sl.at_ hlt;have HX0:=aF (HF.out xs[k] (bN hlt));have HA2:Hid (acc ++ [f xs[k]]=(xs.take (k+1)).map f):=aF (by rw [HA.out,bF hlt,bU];rfl);obtain ⟨x0,⟨x1,A0,c0,x2,h3,h4,h5⟩,x6⟩:=y;generalize xs[k]=x at *;have hps:Slc 2 RPj wr A0 c0 x.place.proj:=⟨h5,h3,h4⟩;obtain ⟨kk,⟨l0,ps⟩,nn⟩:=x;simp only at x0 x1 x2 x6 HX0 hps h3;obtain ⟨fx,hfx⟩:∃fx,f ⟨kk,⟨l0,ps⟩,nn⟩=fx:=⟨_,rfl⟩;rw [hfx] at HX0 HA2;have y:=hlt;clear h4 h5;have HBA:=aF (HB.out.alloc hsz (.cells #[.int .i64 kk,.int .i64 l0,.slice A0 ps.length c0,.int .i64 nn] 160));have HOA:=aF (HO.out.alloc (.cells #[.int .i64 kk,.int .i64 l0,.slice A0 ps.length c0,.int .i64 nn] 160));have HPS:=aF (hps.keep RPj.keeps ((aX _ _).alloc (aY _) (.cells #[.int .i64 kk,.int .i64 l0,.slice A0 ps.length c0,.int .i64 nn] 160)));clear hps;have hbs:=cY hb;clear y
   go_wp2_with (first
    | (go_at_call 134;refine (HX0.out _ HBA.out _ _ HPS.out).mono ?_;rintro e' w1 ⟨rfl,hb1⟩;have HB1:=aF (HBA.out.trans (hb1.mono HBA.out.size));have hsz1:=HB1.out.size;have HO1:=aF (dB HOA.out hb1);clear hb1)
    | (at_builtin;refine wpList_append_own _ rfl _ _ 22 rfl w.heap.size 9 iS (.string { data:= #[] }) 1 16 Tryz.underlying22 iS0 iS1 iS2 iS3 rfl (by decide) _ _ _ rfl (HO1.out.alloc (.cells #[tx fx] 9)) ⟨w1.heap.size,0,none⟩ 1 1 [tx fx] rfl rfl (mC _ _) (mB _) (by unfold maxLen;omega) (by omega) (by simp;omega) ?_))
   intro v' w2 hown' hgrow _;have HO2:Hid (w2.ownsRow w.heap.size 9 1 v' (k+1) ((acc ++ [fx]).map tx)):=aF (by rw [bU];exact hown');have HB2:Hid (Below w.heap.size w w2):=aF ((HB1.out.alloc hsz1 _).grown hgrow (by simp;omega) (fun g hg=>((HO1.out.alloc (.cells #[tx fx] 9)).lt g hg).1));clear hown' hgrow;go_wp2_with fail
   go_roundw
   case rel=>exact ⟨k+1,acc ++ [fx],by omega,by go_num,trivial,by simp [hal],HA2,HO2,HB2⟩
   case measure=>simp [intOf];omega
  ·have hkl:k=xs.length:=by omega
   have HAF:Hid (acc=xs.map f):=aF (by rw [HA.out,hkl,cA]);have HJ:=aF (gQ HO.out hal.symm (by rw [HAF.out];exact HZ.out) (by omega));clear HA;go_wp2_with (go_at_call 73;refine HJ.out.mono ?_;rintro e' w1 ⟨rfl,hb1⟩)
   go_ret;exact ⟨by rw [HAF.out];rfl,HB.out.trans (hb1.mono HB.out.size)⟩
theorem sI (f:Int->List UInt8) (xs:List Int) (A:Option Addr) (c:Nat) (w:World) (H:Slc 1 RInt w A c xs) (hz:Sm (comP (xs.map f))) (hl:xs.length<=1000000)
 (hF:∀x∈xs,∀W,Below w.heap.size w W->Calls Tryz.prog 79 #[.int .i64 x] W fun e' w'=>e' = .returned (tx (f x))/\Below W.heap.size W w'):
 Calls Tryz.prog 78 #[.slice A xs.length c,.func (.func 79) #[] #[]] w fun e' w'=>e' = .returned (tx (comP (xs.map f)))/\Below w.heap.size w w':=by
 obtain ⟨iS,iS0,iS1,iS2,iS3⟩:=info_parts lT;have hle:=H.le;have hbig:=H.big;have HS:=aF H;have HF:=aF hF;have HZ:=aF hz;clear H hF hz;go_enter Tryz.func78,Tryz.ntmps78
 go_wp2_with fail
 go_loopw [5,7,10] (fun v q i wr=>∃(k:Nat) (acc:List (List UInt8)),k<=xs.length/\i = .int .i64 k/\q=q/\acc.length=k/\Hid (acc=(xs.take k).map f)/\Hid (wr.ownsRow w.heap.size 9 1 v k (acc.map tx))/\Hid (Below w.heap.size w wr)) (fun _ _ i _=>xs.length - (intOf i).toNat)
 case atStart=>exact ⟨0,[],by omega,rfl,rfl,rfl,aF rfl,aF (World.ownsRow_nil _ _ _ _),aF (aX _ _)⟩
 case round=>
  obtain ⟨k,acc,hk,rfl,_,hal,HA,HO,HB⟩:=hrel;have hsz:=HB.out.size;by_cases hlt:k<xs.length
  ·obtain ⟨b,o,rfl,hb,y⟩:=(HS.out.keep RInt.keeps HB.out).sl.at_ hlt;have HX0:=aF (HF.out xs[k] (bN hlt));have HA2:Hid (acc ++ [f xs[k]]=(xs.take (k+1)).map f):=aF (by rw [HA.out,bF hlt,bU];rfl);have x0:wr.cell? ⟨b,o+k,none⟩=some (.int .i64 xs[k]):=by simpa [RInt] using y
   generalize xs[k]=x at *;obtain ⟨fx,hfx⟩:∃fx,f x=fx:=⟨_,rfl⟩;rw [hfx] at HX0 HA2;have HBA:=HB;have HOA:=HO;have hbs:=cY hb;clear y
   go_wp2_with (first
    | (go_at_call 79;refine (HX0.out _ HB.out).mono ?_;rintro e' w1 ⟨rfl,hb1⟩;have HB1:=aF (HBA.out.trans (hb1.mono HBA.out.size));have hsz1:=HB1.out.size;have HO1:=aF (dB HO.out hb1);clear hb1)
    | (at_builtin;refine wpList_append_own _ rfl _ _ 22 rfl w.heap.size 9 iS (.string { data:= #[] }) 1 16 Tryz.underlying22 iS0 iS1 iS2 iS3 rfl (by decide) _ _ _ rfl (HO1.out.alloc (.cells #[tx fx] 9)) ⟨w1.heap.size,0,none⟩ 1 1 [tx fx] rfl rfl (mC _ _) (mB _) (by unfold maxLen;omega) (by omega) (by simp;omega) ?_))
   intro v' w2 hown' hgrow _;have HO2:Hid (w2.ownsRow w.heap.size 9 1 v' (k+1) ((acc ++ [fx]).map tx)):=aF (by rw [bU];exact hown');have HB2:Hid (Below w.heap.size w w2):=aF ((HB1.out.alloc hsz1 _).grown hgrow (by simp;omega) (fun g hg=>((HO1.out.alloc (.cells #[tx fx] 9)).lt g hg).1));clear hown' hgrow;go_wp2_with fail
   go_roundw
   case rel=>exact ⟨k+1,acc ++ [fx],by omega,by go_num,trivial,by simp [hal],HA2,HO2,HB2⟩
   case measure=>simp [intOf];omega
  ·have hkl:k=xs.length:=by omega
   have HAF:Hid (acc=xs.map f):=aF (by rw [HA.out,hkl,cA]);have HJ:=aF (gQ HO.out hal.symm (by rw [HAF.out];exact HZ.out) (by omega));clear HA;go_wp2_with (go_at_call 73;refine HJ.out.mono ?_;rintro e' w1 ⟨rfl,hb1⟩)
   go_ret;exact ⟨by rw [HAF.out];rfl,HB.out.trans (hb1.mono HB.out.size)⟩
structure Ctx (w:World) (g:Nat) (b:Bdy) (bh:BH):Prop where
 at_:BdAt w b bh
 regs:w.cell? ⟨g,3,none⟩=some (.slice bh.A1 b.regions.length bh.c1)
 locs:w.cell? ⟨g,6,none⟩=some (.slice bh.A4 b.locals.length bh.c4)
 pow:PowTab w
theorem Ctx.keep {w w':World} {g:Nat} {b:Bdy} {bh:BH} (C:Ctx w g b bh) (hb:Below w.heap.size w w'):Ctx w' g b bh:=
 ⟨C.at_.keep hb,cJ hb C.regs,cJ hb C.locs,C.pow.keep hb⟩
structure FitO (o:Opd):Prop where
 pj:∀x∈o.place.proj,fitJ x
 n : -9223372036854775808<=o.n/\o.n<=9223372036854775807
theorem jO {w:World} {g:Nat} {b:Bdy} {bh:BH} (C:Ctx w g b bh) (r:Int) (mu:Bool) (t:List UInt8) (hr:okI b.regions.length r) (hz:Sm (refP b.regions r mu t)):
 Calls Tryz.prog 47 #[.pointer (some ⟨g,0,none⟩),.int .i64 r,.bool mu,tx t] w fun e' w'=>e' = .returned (tx (refP b.regions r mu t))/\w'=w:=by
 obtain ⟨n,hn⟩:∃n,rgP b.regions r=n:=⟨_,rfl⟩
 have hl:n.length+t.length<=140737488355328:=by
  unfold refP at hz;rw [hn] at hz;simp only [Sm,bB,bK,bP] at hz;omega
 have HR:=aF (fE b.regions g bh.A1 bh.c1 r w C.regs C.at_.reg hr (by rw [hn];show n.length<=_;omega));rw [hn] at HR;have HE:Hid (refP b.regions r mu t=[38,39] ++ n ++ [32] ++ (if mu then [109,117,116,32] else []) ++ t):=aF (by unfold refP;rw [hn]);have h1:¬(9223372036854775807<1+(n.length+1)):=by omega
 have h2:¬(9223372036854775807<n.length+1+1+1):=by omega
 have h3:¬(9223372036854775807<n.length+1+1+1+4):=by omega
 have h4:¬(9223372036854775807<n.length+1+1+1+t.length):=by omega
 have h5:¬(9223372036854775807<n.length+1+1+1+4+t.length):=by omega
 clear hz hn hr C hl;cases mu
 all_goals
  go_enter Tryz.func47,Tryz.ntmps47
  go_wp2_with (go_at_call 33;refine HR.out.mono ?_;rintro e' w1 ⟨rfl,hw⟩;obtain rfl:=hw.symm)
  go_ret;exact ⟨by rw [HE.out];refine congrArg (fun l=>Ending.returned (Value.string l)) (ByteArray.ext ?_);simp,rfl⟩
structure ButB (B g:Nat) (w w':World):Prop where
 os:w'.os=w.os
 tape:w'.tape=w.tape
 output:w'.output=w.output
 size:w.heap.size<=w'.heap.size
 block:∀k,k<B->k≠g->w'.heap[k]?=w.heap[k]?
theorem ButB.refl (B g:Nat) (w:World):ButB B g w w:=⟨rfl,rfl,rfl,aY _,fun _ _ _=>rfl⟩
theorem ButB.trans {B g:Nat} {a b c:World} (h:ButB B g a b) (h2:ButB B g b c):ButB B g a c:=
 ⟨h2.os.trans h.os,h2.tape.trans h.tape,h2.output.trans h.output,bZ h.size h2.size,fun k hk hg=>(h2.block k hk hg).trans (h.block k hk hg)⟩
theorem ButB.of_below {B g:Nat} {a b:World} (h:Below a.heap.size a b) (hB:B<=a.heap.size):ButB B g a b:=⟨h.os,h.tape,h.output,h.size,fun k hk _=>h.block k (by omega)⟩
theorem ButB.below {B g n:Nat} {a b:World} (h:ButB B g a b) (hn:n<=g) (hB:g<B):Below n a b:=⟨h.os,h.tape,h.output,h.size,fun k hk=>h.block k (by omega) (by omega)⟩
theorem ButB.of_below' {B g:Nat} {a b:World} {row:Option Nat} (h:a.grownBy b row) (hB:B<=a.heap.size) (hr:∀k,row=some k->B<=k):ButB B g a b:=by
 have:=(aX B a).grown h hB hr;exact ⟨this.os,this.tape,this.output,this.size,fun k hk _=>this.block k hk⟩
theorem ButB.set {B g:Nat} {a b:World} (h:ButB B g a b) (o:Nat) (v:Value):ButB B g a (b.setCell ⟨g,o,none⟩ v):=
 ⟨h.os,h.tape,h.output,by simpa [World.setCell] using h.size,fun k hk hg=>(bH b ⟨g,o,none⟩ v k hg).trans (h.block k hk hg)⟩
structure Fr (g:Nat) (w w':World):Prop where
 size:w.heap.size<=w'.heap.size
 block:∀k,k<w.heap.size->k≠g->(∀cs f,w.heap[k]?≠some (.cells cs 5 f))->w'.heap[k]?=w.heap[k]?
theorem Fr.refl (g:Nat) (w:World):Fr g w w:=⟨aY _,fun _ _ _ _=>rfl⟩
theorem Fr.trans {g:Nat} {a b c:World} (h:Fr g a b) (h2:Fr g b c):Fr g a c:=
 ⟨bZ h.size h2.size,fun k hk hg hu=>by
   have e:=h.block k hk hg hu
   exact (h2.block k (bO hk h.size) hg (fun cs f=>by rw [e];exact hu cs f)).trans e⟩
theorem Fr.of_below {g:Nat} {a b:World} (h:Below a.heap.size a b):Fr g a b:=⟨h.size,fun k hk _ _=>h.block k hk⟩
theorem Fr.set (g:Nat) (a:World) (o:Nat) (v:Value):Fr g a (a.setCell ⟨g,o,none⟩ v):=
 ⟨by simp [World.setCell],fun k _ hg _=>bH a ⟨g,o,none⟩ v k hg⟩
def prC (b:Bdy) (bh:BH) (p v:Value) (d:Int):Array Value:= #[p,v,.string b.name,.slice bh.A1 b.regions.length bh.c1,.slice bh.A2 b.outl.length bh.c2,.slice bh.A3 b.types.length bh.c3,.slice bh.A4 b.locals.length bh.c4,.int .i64 b.args,.slice bh.A5 b.blocks.length bh.c5,.int .i64 d]
abbrev u8L (bs:List UInt8):List Value:=bs.map (fun c=>Value.int .u8 c.toNat)
structure PrSt (B g:Nat) (b:Bdy) (bh:BH) (bs:List UInt8) (d:Int) (w:World):Prop where
 lt:g<B
 le:B<=w.heap.size
 ex:∃p v,(p = .pointer none\/p = .pointer (some ⟨g,0,none⟩))/\w.heap[g]?=some (.cells (prC b bh p v d) 72 (0,0))/\w.ownsRow B 5 1 v bs.length (u8L bs)
theorem zO:(Tryz.prog.info? 5).map (fun i=>(i.zero,i.size,i.bytes))=some (some (.int .u8 0),1,1):=by kernel_rfl
theorem zQ:(Tryz.prog.info? 70).map (·.size)=some 2:=by kernel_rfl
theorem zN:liesAt Tryz.prog Tryz.prog.depth 72 (10 / Tryz.prog.cellsOf 72) 0 70 1=true:=by kernel_rfl
theorem rJ {w:World} {g o:Nat} {cs:Array Value} {T:TypeId} (h:w.heap[g]?=some (.cells cs T (0,0))) (x:Value):(w.setCell ⟨g,o,none⟩ x).heap[g]?=some (.cells (cs.setIfInBounds o x) T (0,0)):=by
 simp [World.setCell,Array.getElem?_modify,h]
theorem mW {w:World} {B g o n:Nat} {e:TypeId} {m:Nat} {v:Value} {xs:List Value} (h:w.ownsRow B e m v n xs) (hg:g<B) (x:Value):(w.setCell ⟨g,o,none⟩ x).ownsRow B e m v n xs:=
 dU h (fun k h1 _ _=>bH _ _ _ k (by simp;omega))
theorem PrSt.keep {B g:Nat} {b:Bdy} {bh:BH} {bs:List UInt8} {d:Int} {w w':World} (P:PrSt B g b bh bs d w) (hb:Below w.heap.size w w'):PrSt B g b bh bs d w':=by
 obtain ⟨p,v,hp,hk,ho⟩:=P.ex;exact ⟨P.lt,bZ P.le hb.size,p,v,hp,(hb.block g (by have:=P.lt;have:=P.le;omega)).trans hk,dB ho hb⟩
theorem vT (B g:Nat) (b:Bdy) (bh:BH) (bs:List UInt8) (d:Int) (w:World) (P:PrSt B g b bh bs d w):
 Calls Tryz.prog 127 #[.pointer (some ⟨g,0,none⟩)] w fun e' w'=>e' = .returned (.tuple #[])/\(∃v,w'.heap[g]?=some (.cells (prC b bh (.pointer (some ⟨g,0,none⟩)) v d) 72 (0,0))/\w'.ownsRow B 5 1 v bs.length (u8L bs))/\ButB B g w w'/\Fr g w w':=by
 obtain ⟨p,v,hp,hk,ho⟩:=P.ex;have hlt:=P.lt;have c0:w.cell? ⟨g,0,none⟩=some p:=by simp [World.cell?,hk,prC]
 have f0:w.frozen? ⟨g,0,none⟩=false:=by simp [World.frozen?,hk]
 have hsh:w.shape? g=some (72,10):=by simp [World.shape?,hk,prC]
 have HK:=aF hk;have HO:=aF ho;clear hk ho P;obtain ⟨j,hj,hjs⟩:=Option.map_eq_some_iff.1 zQ;rcases hp with rfl | rfl
 ·go_enter Tryz.func127,Tryz.ntmps127
  go_wp2
  rw [Lib.run_to_unsafe w ⟨g,0,none⟩ Tryz.underlying67 Tryz.underlying220 hj (by rw [hjs];decide) hsh (Nat.zero_lt_succ 9)];simp only [Result.andThen];rw [Oper.upon_value];go_wp2
  rw [run_callFunc_extern Tryz.func160 (by kernel_rfl) (by kernel_rfl) (by kernel_rfl) (e:=Extern.AbiNoEscape.same) (by kernel_rfl)];rw [Lib.run_noEscape];simp only [Result.andThen];rw [Oper.upon_value];go_wp2
  rw [Lib.run_from_unsafe w ⟨g,0,none⟩ Tryz.underlying220 Tryz.underlying67 hj hsh zN];simp only [Result.andThen];rw [Oper.upon_value];go_wp2
  go_end0
  refine ⟨rfl,⟨v,?_,mW HO.out hlt _⟩,(ButB.refl _ _ _).set _ _,Fr.set _ _ _ _⟩;exact rJ HK.out _
 ·go_enter Tryz.func127,Tryz.ntmps127
  go_wp2
  rw [Lib.run_neq_ptr_same w _ Tryz.underlying67 hj];go_wp2
  go_end0
  exact ⟨rfl,⟨v,HK.out,HO.out⟩,ButB.refl _ _ _,Fr.refl _ _⟩
theorem qI (B g:Nat) (b:Bdy) (bh:BH) (bs s:List UInt8) (d:Int) (w:World) (P:PrSt B g b bh bs d w) (hz:bs.length+s.length<=140737488355328):
 Calls Tryz.prog 75 #[.pointer (some ⟨g,0,none⟩),tx s] w fun e' w'=>e' = .returned (.tuple #[.int .i64 s.length,.nilIface])/\PrSt B g b bh (bs ++ s) d w'/\ButB B g w w'/\Fr g w w':=by
 obtain ⟨i0,hi,hz0,hz1,hz2⟩:=info_parts zO;have HCP:=aF (vT B g b bh bs d w P);have hlt:=P.lt;have hle:=P.le;clear P;go_enter Tryz.func75,Tryz.ntmps75
 go_wp2_with (go_at_call 127;refine HCP.out.mono ?_)
 rintro e' w1 ⟨rfl,⟨v,hk,ho⟩,hb1,hf1⟩;have HF1:=aF hf1;have HB1:=aF hb1;have HK:=aF hk;have HO:=aF ho;have c1:w1.cell? ⟨g,1,none⟩=some v:=by simp [World.cell?,hk,prC]
 clear hb1 hk ho hf1;go_wp2_with (at_builtin;refine Lib.wpList_append_own_string _ rfl _ _ 68 9 rfl B 5 i0 Tryz.underlying68 Tryz.underlying9 hi hz0 hz1 hz2 _ _ _ rfl HO.out ⟨s.toArray⟩ rfl ?c3 ?c4 ?c5 ?_)
 case c3=>have hl:(⟨s.toArray⟩:ByteArray).size=s.length:=rfl
          unfold maxLen;omega
 case c4=>have hl:(⟨s.toArray⟩:ByteArray).size=s.length:=rfl
          omega
 case c5=>have:=HB1.out.size;omega
 intro v' w2 hown' hgrow _;have hs1:=HB1.out.size
 have hb2:w2.heap[g]?=some (.cells (prC b bh (.pointer (some ⟨g,0,none⟩)) v d) 72 (0,0)):=by
  rw [hgrow.block g (by omega) (fun e=>by have:=(HO.out.lt g e.symm).1;omega)];exact HK.out
 have HK2:=aF hb2;have d1:w2.cell? ⟨g,1,none⟩=some v:=by simp [World.cell?,hb2,prC]
 have f1:w2.frozen? ⟨g,1,none⟩=false:=by simp [World.frozen?,hb2]
 have HO2:=aF hown';have HBB:Hid (ButB B g w1 w2):=aF (ButB.of_below' hgrow (by omega) (fun k hk=>(HO.out.lt k hk).1))
 have HFF:Hid (Fr g w1 w2):=aF ⟨HBB.out.size,fun k hk _ hu=>hgrow.block k hk (fun e=>by
  rcases HO.out.2 with ⟨hv,_⟩ | ⟨q,cap,cur,hv,_,hh,_⟩
  ·rw [hv] at e;cases e
  ·rw [hv] at e;have e':some k=some q:=e;cases e'
   exact hu _ _ hh)⟩
 obtain ⟨ao,n',cap,rfl⟩:∃ao n' cap,v' = .slice ao n' cap:=by
  rcases hown'.2 with ⟨hv,_⟩ | ⟨g,cap,cur,hv,_⟩
  ·exact ⟨_,_,_,hv⟩
  ·exact ⟨_,_,_,hv⟩
 obtain ⟨ao1,n1,cap1,rfl⟩:∃ao n' cap,v = .slice ao n' cap:=by
  rcases HO.out.2 with ⟨hv,_⟩ | ⟨g,cap,cur,hv,_⟩
  ·exact ⟨_,_,_,hv⟩
  ·exact ⟨_,_,_,hv⟩
 clear hb2 hown' hgrow c1;go_wp2_with fail
 go_ret2
 refine ⟨rfl,⟨hlt,?_,_,_,.inr rfl,rJ HK2.out _,mW (by rw [bB,show u8L (bs ++ s)=u8L bs ++ u8L s from bU];exact HO2.out) hlt _⟩,(HB1.out.trans HBB.out).set _ _,HF1.out.trans (HFF.out.trans (Fr.set _ _ _ _))⟩;have:=HBB.out.size;simp [World.setCell];omega
theorem PrSt.depth {B g:Nat} {b:Bdy} {bh:BH} {bs:List UInt8} {d:Int} {w:World} (P:PrSt B g b bh bs d w):w.cell? ⟨g,9,none⟩=some (.int .i64 d)/\w.frozen? ⟨g,9,none⟩=false:=by
 obtain ⟨p,v,_,hk,_⟩:=P.ex;exact ⟨by simp [World.cell?,hk,prC],by simp [World.frozen?,hk]⟩
theorem PrSt.turn {B g:Nat} {b:Bdy} {bh:BH} {bs:List UInt8} {d:Int} {w:World} (P:PrSt B g b bh bs d w) (d':Int):PrSt B g b bh bs d' (w.setCell ⟨g,9,none⟩ (.int .i64 d')):=by
 obtain ⟨p,v,hp,hk,ho⟩:=P.ex;exact ⟨P.lt,by have:=P.le;simpa [World.setCell] using this,p,v,hp,rJ hk _,mW ho P.lt _⟩
theorem nN (B g:Nat) (b:Bdy) (bh:BH) (l:List UInt8) (d:Int) (w:World) (P:PrSt B g b bh l d w) (h0:l≠[]):
 Calls Tryz.prog 38 #[.pointer (some ⟨g,0,none⟩)] w fun e' w'=>e' = .returned (tx l)/\ButB B g w w':=by
 obtain ⟨p,v,hp,hk,hown⟩:=P.ex;have hlt:=P.lt;have hl0:l.length≠0:=by simpa using h0
 obtain ⟨q,cap,cur,rfl,hbg,hg,hnc,hcm,hcs,htake⟩:∃q cap cur,v = .slice (some ⟨q,0,none⟩) l.length cap/\B<=q/\w.heap[q]?=some (.cells cur 5 (0,0))/\l.length<=cap/\cap<=maxLen/\cur.size=cap * 1/\cur.toList.take (l.length * 1)=u8L l:=by
  rcases hown.2 with ⟨_,hz⟩ | ⟨g,cap,cur,hv,r⟩
  ·exact absurd hz hl0
  ·exact ⟨g,cap,cur,hv,r⟩
 have c1:w.drew.cell? ⟨g,1,none⟩=some (.slice (some ⟨q,0,none⟩) l.length cap):=by
  have:w.drew.heap[g]?=some (.cells (prC b bh p (.slice (some ⟨q,0,none⟩) l.length cap) d) 72 (0,0)):=hk;rw [Lib.cell_of_heap this];rfl
 have hSD:(Builtin.unsafeSliceData_ #[68] 135 #[.slice (some ⟨q,0,none⟩) l.length cap]).run Tryz.prog w.drew = .ok (.pointer (some ⟨q,0,none⟩)) w.drew:=
  Lib.run_unsafeSliceData_row _ _ _ _ _ _ (by omega)
 have hUS:(Builtin.unsafeString_ #[135,3] 9 #[.pointer (some ⟨q,0,none⟩),.int .i64 l.length]).run Tryz.prog w.drew = .ok (.string ⟨l.toArray⟩) (w.drew.freeze ⟨q,0,none⟩ l.length):=by
  refine Lib.run_unsafeString_row w.drew 135 3 9 5 Tryz.underlying135 (by kernel_rfl) q cur.size (by have hg':w.drew.heap[q]?=some (.cells cur 5 (0,0)):=hg;simp [World.shape?,hg']) l h0 (by omega) (by unfold maxLen at hcm;omega) ?_;intro j x hx;have:=hown.cells (g:=q) rfl j (.int .u8 x.toNat) (by simp [u8L,hx]);exact this
 clear hk hg P htake hcs hnc;have mixed:Tryz.prog.follows .mixedOrders=true:=by kernel_rfl
 go_enter Tryz.func38,Tryz.ntmps38
 go_wp2
 go_region_o
 all_goals
  go_wp2
  go_ret;refine ⟨rfl,?_⟩;have hb:=Lib.below_freeze (Below.drew (aX B w)) (p:=⟨q,0,none⟩) hbg l.length;exact ⟨hb.os,hb.tape,hb.output,hb.size,fun k hk _=>hb.block k hk⟩
def ind (d:Nat):List UInt8:=Lib.repeatL [32,32] d
def lnD (cl:Bool) (d:Nat):Nat:=if cl then d - 1 else d
def lnE (cl op:Bool) (d:Nat):Nat:=if op then lnD cl d+1 else lnD cl d
theorem sE (xs:List (List UInt8)):(xs.map ba).map (·.data.toList)=xs:=by
 rw [List.map_map];exact (List.map_congr_left (fun x _=>rfl)).trans (List.map_id xs)
theorem jS (B g:Nat) (b:Bdy) (bh:BH) (bs s:List UInt8) (d:Nat) (cl op:Bool) (xs:List (List UInt8)) (bk:Nat) (w:World) (P:PrSt B g b bh bs d w)
 (hx:∀j x,xs[j]?=some x->w.cell? ⟨bk,j,none⟩=some (tx x)) (hbk:bk<w.heap.size) (hs:Lib.join xs [32]=s) (hcl:Lib.hasSuffix s [125]=cl) (hop:Lib.hasSuffix s [123]=op) (hd:cl=true->1<=d) (hd2:d<=1000)
 (hn:xs.length<=1000) (hz:bs.length+(ind (lnD cl d)).length+s.length+1<=140737488355328) (hi:(ind (lnD cl d)).length<=4000):
 Calls Tryz.prog 28 #[.pointer (some ⟨g,0,none⟩),.slice (some ⟨bk,0,none⟩) xs.length xs.length] w fun e' w'=>e' = .returned (.tuple #[])/\PrSt B g b bh (bs ++ (ind (lnD cl d) ++ s ++ [10])) (lnE cl op d) w'/\ButB B g w w'/\Fr g w w':=by
 have HJ:Hid (Calls Tryz.prog 73 #[.slice (some ⟨bk,0,none⟩) xs.length xs.length,.string ⟨#[32]⟩] w fun e' w'=>e' = .returned (tx s)/\Below w.heap.size w w'):=aF (by
  have h:=Tryz.strings_Join bk 0 xs.length (xs.map ba) ⟨#[32]⟩ w (fun j x hj=>by
   rw [cI] at hj;cases hy:xs[j]? with
   | none=>rw [hy] at hj;cases hj
   | some y=>
     rw [hy] at hj;simp at hj;subst hj;rw [Nat.zero_add];exact hx j y hy) hbk (by rw [cF];omega) (by rw [cF];exact aY _) (by rw [sE];show (Lib.join xs [32]).length<=_;rw [hs];omega)
  rw [sE,cF] at h;have e:Lib.join xs (⟨#[32]⟩:ByteArray).data.toList=s:=hs;rw [e] at h
  exact h)
 have HS1:Hid (∀W,Calls Tryz.prog 74 #[tx s,.string ⟨#[125]⟩] W fun e' w'=>e' = .returned (.bool cl)/\w'=W):=aF (fun W=>by
  have h:=Tryz.strings_HasSuffix (ba s) ⟨#[125]⟩ W (show s.length<=_ by omega);have e:Lib.hasSuffix (ba s).data.toList (⟨#[125]⟩:ByteArray).data.toList=cl:=hcl;rw [e] at h
  exact h)
 have HS2:Hid (∀W,Calls Tryz.prog 74 #[tx s,.string ⟨#[123]⟩] W fun e' w'=>e' = .returned (.bool op)/\w'=W):=aF (fun W=>by
  have h:=Tryz.strings_HasSuffix (ba s) ⟨#[123]⟩ W (show s.length<=_ by omega);have e:Lib.hasSuffix (ba s).data.toList (⟨#[123]⟩:ByteArray).data.toList=op:=hop;rw [e] at h
  exact h)
 have HR:Hid (∀W,Calls Tryz.prog 76 #[.string ⟨#[32,32]⟩,.int .i64 (lnD cl d:Nat)] W fun e' w'=>e' = .returned (tx (ind (lnD cl d)))/\Below W.heap.size W w'):=aF (fun W=>by
  have:lnD cl d<=d:=by unfold lnD;split <;> omega
  have h:=Tryz.strings_Repeat ⟨#[32,32]⟩ (lnD cl d) W (by omega) (show 2 * lnD cl d<=_ by omega)
  exact h)
 have HP:=aF P;obtain ⟨i,hid_⟩:∃i,ind (lnD cl d)=i:=⟨_,rfl⟩;rw [hid_] at hz hi HR ⊢;rw [bM i s [10]];have HW:=aF (fun (W:World) (e:Int) (Q:PrSt B g b bh bs e W)=>qI B g b bh bs (i ++ (s ++ [10])) e W Q (by simp only [bB,bK,bP];omega));have hz1:¬(9223372036854775807<i.length+s.length):=by omega
 have hz2:¬(9223372036854775807<i.length+s.length+1):=by omega
 have HC:=aF hd;have P0:=aF P.le;clear hx hs hcl hop hid_ hz hi P hd;go_enter Tryz.func28,Tryz.ntmps28
 go_wp2_with (go_at_call 73;refine HJ.out.mono ?_)
 rintro e' w1 ⟨rfl,hb1⟩;have HB1:=aF hb1;have HP1:=aF (HP.out.keep hb1);have c9:=HP1.out.depth.1;have f9:=HP1.out.depth.2;clear hb1 HJ HP;cases cl with
 | false=>
   simp only [lnD,if_false,Bool.false_eq_true] at HR HW ⊢;go_wp2_with (go_at_call 74;refine (HS1.out _).mono ?_;rintro e' w2 ⟨rfl,hw⟩;obtain rfl:=hw.symm)
   have HPW:=aF (HP1.out.keep (aX _ _).drew);have HBW:=aF (ButB.of_below (g:=g) HB1.out.drew P0.out);have HFW:=aF (Fr.of_below (g:=g) HB1.out.drew);clear HP1 HB1 c9 f9;refine cQ (S:=fun X=>X.cell? ⟨g,9,none⟩=some (.int .i64 (d:Nat))) [0,1,2,3,4,5,6,8,7,9,10,11] (by kernel_rfl) ?_;have hS:=HPW.out.depth.1;(iterate 8 (refine cR (v:=?_) ?_ hS ?_;rotate_left;(next=>(rintro X hX;(try simp only [aI]);go_simp;rfl));simp only [aM]));(refine cM (fun K1 hK1=>?_);simp only [aM];rw [bA (by rfl)];go_simp);refine (HR.out _).mono ?_;rintro e' w3 ⟨rfl,hb3⟩;have HP3:=aF (HPW.out.keep hb3);have HB3:=aF (HBW.out.trans (ButB.of_below (g:=g) hb3 HPW.out.le));have HF3:=aF (HFW.out.trans (Fr.of_below (g:=g) hb3));clear hb3;replace hS:=HP3.out.depth.1;refine hK1.out _ _ (fun _=>hS) ?_;refine cU (v:=tx (i ++ s)) (by kernel_rfl) (fun _ _ _ h=>h) (Or.inl ⟨by rfl,?_⟩) hS ?_
   ·rintro X hX;(try simp only [aI]);go_simp;exact fH i s
   (simp only [aM]);refine cU (v:=tx (i ++ (s ++ [10]))) (by kernel_rfl) (fun _ _ _ h=>h) (Or.inl ⟨by rfl,?_⟩) hS ?_
   ·rintro X hX;(try simp only [aI]);go_simp;exact (ba_l (i ++ s) #[10]).trans (by simp)
   (simp only [aM]);(refine cM (fun K1 hK1=>?_);simp only [aM];rw [bA (by rfl)];go_simp);refine (HW.out _ _ HP3.out).mono ?_;rintro e' w4 ⟨rfl,hp4,hb4,hf4⟩;have HF4:=aF (HF3.out.trans hf4);have HP4:=aF hp4;have HB4:=aF (HB3.out.trans hb4);clear hp4 hb4 hf4;refine hK1.out _ _ (fun _=>HP4.out.depth.1) ?_;refine cV ?_;have d9:=HP4.out.depth.1;have g9:=HP4.out.depth.2;cases op with
   | false=>
     go_wp2_with (go_at_call 74;refine (HS2.out _).mono ?_;rintro e' w5 ⟨rfl,hw⟩;obtain rfl:=hw.symm)
     go_end0
     exact ⟨rfl,HP4.out,HB4.out,HF4.out⟩
   | true=>
     go_wp2_with (go_at_call 74;refine (HS2.out _).mono ?_;rintro e' w5 ⟨rfl,hw⟩;obtain rfl:=hw.symm)
     go_end0
     exact ⟨rfl,(show ((d+1:Nat):Int)=(d:Int)+1 from rfl) ▸ HP4.out.turn ((d:Int)+1),HB4.out.set _ _,HF4.out.trans (Fr.set _ _ _ _)⟩
 | true=>
   obtain ⟨e,rfl⟩:∃e,d=e+1:=⟨d - 1,by have:=HC.out rfl;omega⟩;simp only [lnD,if_true,Nat.add_sub_cancel] at HR HW ⊢;go_wp2_with (go_at_call 74;refine (HS1.out _).mono ?_;rintro e' w2 ⟨rfl,hw⟩;obtain rfl:=hw.symm)
   have HPW:=aF ((HP1.out.turn (e:Int)).keep (aX _ _).drew);have HBW:=aF (((ButB.of_below (g:=g) HB1.out P0.out).set 9 (.int .i64 (e:Int))).trans (ButB.of_below (aX _ _).drew (HP1.out.turn (e:Int)).le));have HFW:=aF ((Fr.of_below (g:=g) HB1.out).trans ((Fr.set g w1 9 (.int .i64 (e:Int))).trans (Fr.of_below (aX _ _).drew)));clear HP1 HB1 c9 f9;refine cQ (S:=fun X=>X.cell? ⟨g,9,none⟩=some (.int .i64 (e:Nat))) [0,1,2,3,4,5,6,8,7,9,10,11] (by kernel_rfl) ?_;have hS:=HPW.out.depth.1;(iterate 8 (refine cR (v:=?_) ?_ hS ?_;rotate_left;(next=>(rintro X hX;(try simp only [aI]);go_simp;rfl));simp only [aM]));(refine cM (fun K1 hK1=>?_);simp only [aM];rw [bA (by rfl)];go_simp);refine (HR.out _).mono ?_;rintro e' w3 ⟨rfl,hb3⟩;have HP3:=aF (HPW.out.keep hb3);have HB3:=aF (HBW.out.trans (ButB.of_below (g:=g) hb3 HPW.out.le));have HF3:=aF (HFW.out.trans (Fr.of_below (g:=g) hb3));clear hb3;replace hS:=HP3.out.depth.1;refine hK1.out _ _ (fun _=>hS) ?_;refine cU (v:=tx (i ++ s)) (by kernel_rfl) (fun _ _ _ h=>h) (Or.inl ⟨by rfl,?_⟩) hS ?_
   ·rintro X hX;(try simp only [aI]);go_simp;exact fH i s
   (simp only [aM]);refine cU (v:=tx (i ++ (s ++ [10]))) (by kernel_rfl) (fun _ _ _ h=>h) (Or.inl ⟨by rfl,?_⟩) hS ?_
   ·rintro X hX;(try simp only [aI]);go_simp;exact (ba_l (i ++ s) #[10]).trans (by simp)
   (simp only [aM]);(refine cM (fun K1 hK1=>?_);simp only [aM];rw [bA (by rfl)];go_simp);refine (HW.out _ _ HP3.out).mono ?_;rintro e' w4 ⟨rfl,hp4,hb4,hf4⟩;have HF4:=aF (HF3.out.trans hf4);have HP4:=aF hp4;have HB4:=aF (HB3.out.trans hb4);clear hp4 hb4 hf4;refine hK1.out _ _ (fun _=>HP4.out.depth.1) ?_;refine cV ?_;have d9:=HP4.out.depth.1;have g9:=HP4.out.depth.2;cases op with
   | false=>
     go_wp2_with (go_at_call 74;refine (HS2.out _).mono ?_;rintro e' w5 ⟨rfl,hw⟩;obtain rfl:=hw.symm)
     go_end0
     exact ⟨rfl,HP4.out,HB4.out,HF4.out⟩
   | true=>
     go_wp2_with (go_at_call 74;refine (HS2.out _).mono ?_;rintro e' w5 ⟨rfl,hw⟩;obtain rfl:=hw.symm)
     go_end0
     exact ⟨rfl,(show ((e+1:Nat):Int)=(e:Int)+1 from rfl) ▸ HP4.out.turn ((e:Int)+1),HB4.out.set _ _,HF4.out.trans (Fr.set _ _ _ _)⟩
theorem vB {w:World} {g:Nat} {b:Bdy} {bh:BH} (C:Ctx w g b bh) (o:Opd) (A:Option Addr) (c:Nat) (hp:Slc 2 RPj w A c o.place.proj) (ho:OkOp b.locals o) (hf:FitO o) (hz:Sm (opdP b.locals o)):
 Calls Tryz.prog 134 #[.pointer (some ⟨g,0,none⟩),.agg #[.int .i64 o.kind,.int .i64 o.place.loc,.slice A o.place.proj.length c,.int .i64 o.n]] w fun e' w'=>e' = .returned (tx (opdP b.locals o))/\Below w.heap.size w w':=by
 have HP:=aF (fun (hk:o.kind<=1) (hz:Sm (placeP b.locals o.place)) (W:World) (hb:Below w.heap.size w W)=>eN b.locals g bh.A4 bh.c4 o.place A c W (cJ hb C.locs) (C.at_.loc.keep RLc.keeps hb) (hp.keep RPj.keeps hb) (ho.place hk).loc hf.pj hz (C.pow.keep hb));have HN:=aF (fun (W:World) (hb:Below w.heap.size w W)=>Tryz.strconv_FormatInt_10 o.n hf.n.1 hf.n.2 W (C.pow.keep hb));obtain ⟨k,⟨l,ps⟩,n⟩:=o;have hk:=ho.kind;simp only at hk HP HN ⊢;clear C hp ho hf;have HB0:=aF (fun (o:Obj)=>(aX w.heap.size w).alloc (aY _) o);obtain rfl | rfl | rfl | rfl | rfl:k=0\/k=1\/k=2\/k=3\/k=4:=by omega
 ·obtain ⟨t,ht⟩:∃t,placeP b.locals ⟨l,ps⟩=t:=⟨_,rfl⟩;have HE:Hid (opdP b.locals ⟨0,⟨l,ps⟩,n⟩=[99,111,112,121,32] ++ t):=aF (by rw [<- ht];rfl);have hl:5+t.length<=140737488355328:=by rw [HE.out] at hz;simp only [Sm,bB,bK,bP] at hz;omega
  have HQ:=aF (HP.out (by decide) (by rw [ht];show t.length<=_;omega));rw [ht] at HQ;clear HP HN hz ht;go_enter Tryz.func134,Tryz.ntmps134
  go_wp2_with (go_at_call 48;refine (HQ.out _ (HB0.out _)).mono ?_;rintro e' w1 ⟨rfl,hb1⟩;have HB1:=aF ((HB0.out _).trans (hb1.mono (HB0.out _).size));clear hb1)
  go_ret;exact ⟨by rw [HE.out];refine congrArg (fun l=>Ending.returned (Value.string l)) (ByteArray.ext ?_);simp,HB1.out⟩
 ·obtain ⟨t,ht⟩:∃t,placeP b.locals ⟨l,ps⟩=t:=⟨_,rfl⟩;have HE:Hid (opdP b.locals ⟨1,⟨l,ps⟩,n⟩=[109,111,118,101,32] ++ t):=aF (by rw [<- ht];rfl);have hl:5+t.length<=140737488355328:=by rw [HE.out] at hz;simp only [Sm,bB,bK,bP] at hz;omega
  have HQ:=aF (HP.out (by decide) (by rw [ht];show t.length<=_;omega));rw [ht] at HQ;clear HP HN hz ht;go_enter Tryz.func134,Tryz.ntmps134
  go_wp2_with (go_at_call 48;refine (HQ.out _ (HB0.out _)).mono ?_;rintro e' w1 ⟨rfl,hb1⟩;have HB1:=aF ((HB0.out _).trans (hb1.mono (HB0.out _).size));clear hb1)
  go_ret;exact ⟨by rw [HE.out];refine congrArg (fun l=>Ending.returned (Value.string l)) (ByteArray.ext ?_);simp,HB1.out⟩
 ·have HE:Hid (opdP b.locals ⟨2,⟨l,ps⟩,n⟩=Lib.itoa n):=aF rfl;clear HP hz;go_enter Tryz.func134,Tryz.ntmps134
  go_wp2_with (go_at_call 166;refine (HN.out _ (HB0.out _)).mono ?_;rintro e' w1 ⟨rfl,hb1⟩;have HB1:=aF ((HB0.out _).trans ((iG hb1).mono (HB0.out _).size));clear hb1)
  go_ret;exact ⟨by rw [HE.out];rfl,HB1.out⟩
 ·have HE:Hid (opdP b.locals ⟨3,⟨l,ps⟩,n⟩=boolP (decide (n=1))):=aF rfl;clear HP HN hz;have HFB:=aF (fun (b:Bool) (W:World)=>Tryz.strconv_FormatBool b W);have hd:(n == 1)=decide (n=1):=by rw [bR];simp
  generalize decide (n=1)=q at hd HE;go_enter Tryz.func134,Tryz.ntmps134
  go_wp2_with (go_at_call 167;refine (HFB.out _ _).mono ?_;rintro e' w1 ⟨rfl,hw⟩;obtain rfl:=hw.symm)
  go_ret;exact ⟨by rw [HE.out];cases q <;> rfl,HB0.out _⟩
 ·have HE:Hid (opdP b.locals ⟨4,⟨l,ps⟩,n⟩=unitP):=aF rfl;clear HP HN hz;go_enter Tryz.func134,Tryz.ntmps134
  go_wp2_with fail
  go_ret;exact ⟨by rw [HE.out];rfl,HB0.out _⟩
theorem nT {w:World} {g:Nat} {b:Bdy} {bh:BH} (C:Ctx w g b bh) (l:List Opd) (A:Option Addr) (c:Nat) (hp:Slc 4 ROp w A c l) (ho:∀o∈l,OkOp b.locals o) (hf:∀o∈l,FitO o) (hz:Sm (opsP b.locals l)) (hl:l.length<=1000000):
 Calls Tryz.prog 81 #[.pointer (some ⟨g,0,none⟩),.slice A l.length c] w fun e' w'=>e' = .returned (tx (opsP b.locals l))/\Below w.heap.size w w':=by
 have HJ:=aF (sH g (opdP b.locals) l A c w hp hz hl (fun x hx W hb A0 c0 hs=>vB (C.keep hb) x A0 c0 hs (ho x hx) (hf x hx) (by
  have:=jV (l:=l.map (opdP b.locals)) (opdP b.locals x) (List.mem_map.2 ⟨x,hx,rfl⟩)
  exact bZ this hz)))
 clear C hp ho hf hz;go_enter Tryz.func81,Tryz.ntmps81
 go_wp2_with (go_at_call 133;refine HJ.out.mono ?_;rintro e' w1 ⟨rfl,hb1⟩)
 go_ret;exact ⟨rfl,hb1⟩
theorem oZ (n:Int) (h0 : -9223372036854775808<=n) (h1:n<=9223372036854775807) (w:World) (ht:PowTab w):
 Calls Tryz.prog 79 #[.int .i64 n] w fun e' w'=>e' = .returned (tx (idxP 35 n))/\Below w.heap.size w w':=by
 have HI:=aF (index_any' [35] n h0 h1 (by simp) w ht);clear ht;go_enter Tryz.func79,Tryz.ntmps79
 go_wp2_with (go_at_call 34;refine HI.out.mono ?_;rintro e' w1 ⟨rfl,hb1⟩)
 go_ret;exact ⟨rfl,hb1⟩
def fitN (n:Int):Prop:= -9223372036854775808<=n/\n<=9223372036854775807
structure FitT (t:Ty):Prop where
 elem:fitN t.elem
 flds:∀f∈t.flds,fitN f
theorem rF {w:World} {g:Nat} {b:Bdy} {bh:BH} (C:Ctx w g b bh) (t:Ty) (A:Option Addr) (c:Nat) (hp:Slc 1 RInt w A c t.flds) (ho:OkTy b.regions t) (hf:FitT t) (hz:Sm (typeP b.regions t)) (hl:t.flds.length<=1000000):
 Calls Tryz.prog 35 #[.pointer (some ⟨g,0,none⟩),.agg #[.int .i64 t.kind,.bool t.mu,.int .i64 t.reg,.int .i64 t.elem,.slice A t.flds.length c]] w fun e' w'=>e' = .returned (tx (typeP b.regions t))/\Below w.heap.size w w':=by
 have HI:=aF (fun (W:World) (hb:Below w.heap.size w W)=>index_any' [35] t.elem hf.elem.1 hf.elem.2 (by simp) W (C.pow.keep hb));have HR:=aF (fun (h3:t.kind=3) (W:World) (hb:Below w.heap.size w W) (s:List UInt8) (hz:Sm (refP b.regions t.reg t.mu s))=>jO (C.keep hb) t.reg t.mu s (ho.reg h3) hz);have HJ:=aF (fun (W:World) (hb:Below w.heap.size w W) (hz:Sm (comP (t.flds.map (idxP 35))))=>sI (idxP 35) t.flds A c W (hp.keep RInt.keeps hb) hz hl (fun x hx X hX=>oZ x (hf.flds x hx).1 (hf.flds x hx).2 X ((C.pow.keep hb).keep hX)));obtain ⟨k,mu,rg,el,fl⟩:=t;have hk:=ho.kind;simp only at hk HI HR HJ ⊢;clear C hp ho hf;have HB0:=aF (fun (o:Obj)=>(aX w.heap.size w).alloc (aY _) o);obtain rfl | rfl | rfl | rfl | rfl:k=0\/k=1\/k=2\/k=3\/k=4:=by omega
 case inr.inr.inr.inl=>
  have HE:Hid (typeP b.regions ⟨3,mu,rg,el,fl⟩=refP b.regions rg mu (idxP 35 el)):=aF rfl;have HQ:=aF (fun W hb=>HR.out rfl W hb (idxP 35 el) (by rw [<- HE.out];exact hz));clear HR HJ hz;go_enter Tryz.func35,Tryz.ntmps35
  go_wp2_with fail
  have hS:=cK (cP w [.int .i64 3,.bool mu,.int .i64 rg,.int .i64 el,.slice A fl.length c] 81) ((aX _ _).drew);refine cQ (S:=fun X=>∀i v,[.int .i64 3,.bool mu,.int .i64 rg,.int .i64 el,.slice A fl.length c][i]?=some v->X.cell? ⟨w.heap.size,i,none⟩=some v) [0,1,2,3,4,5,6,7,8,9] (by kernel_rfl) ?_;(iterate 7 (refine cR (v:=?_) ?_ hS ?_;rotate_left;(next=>(rintro X hX;obtain ⟨-,s1,s2,s3⟩:=aP hX;(try simp only [aI]);go_simp;rfl));simp only [aM]));(refine cM (fun K1 hK1=>?_);simp only [aM];rw [bA (by rfl)];go_simp);refine (HI.out _ (HB0.out _).drew).mono ?_;rintro e' w1 ⟨rfl,hb1⟩;replace hS:=cK hS hb1;have HB1:=aF ((HB0.out _).drew.trans (hb1.mono (HB0.out _).drew.size));clear hb1;refine hK1.out _ _ (fun _=>hS) ?_;(refine cM (fun K1 hK1=>?_);simp only [aM];rw [bA (by rfl)];go_simp);refine (HQ.out _ HB1.out).mono ?_;rintro e' w2 ⟨rfl,hw⟩;obtain rfl:=hw.symm;refine hK1.out _ _ (fun _=>hS) ?_;((refine cR (v:=?_) ?_ hS ?_;rotate_left;(next=>(rintro X -;(try simp only [aI]);go_simp;rfl));simp only [aM]))
  refine cV ?_;go_wp2_with fail
  go_ret;exact ⟨by rw [HE.out];rfl,HB1.out⟩
 case inr.inr.inr.inr=>
  obtain ⟨s,hs⟩:∃s,comP (fl.map (idxP 35))=s:=⟨_,rfl⟩;have HE:Hid (typeP b.regions ⟨4,mu,rg,el,fl⟩=40 :: (s ++ [41])):=aF (by rw [<- hs];rfl);have hl2:s.length<=140737488355326:=by rw [HE.out] at hz;simp only [Sm,bB,bK,bP] at hz;omega
  have HQ:=aF (fun W hb=>HJ.out W hb (by rw [hs];show s.length<=_;omega));rw [hs] at HQ;clear HR HJ hz HI hs;go_enter Tryz.func35,Tryz.ntmps35
  go_wp2_with (go_at_call 78;refine (HQ.out _ (HB0.out _)).mono ?_;rintro e' w1 ⟨rfl,hb1⟩;have HB1:=aF ((HB0.out _).trans (hb1.mono (HB0.out _).size));clear hb1)
  go_ret;exact ⟨by rw [HE.out];refine congrArg (fun l=>Ending.returned (Value.string l)) (ByteArray.ext ?_);simp,HB1.out⟩
 all_goals
  clear HR HJ HI hz;go_enter Tryz.func35,Tryz.ntmps35
  go_wp2_with fail
  go_ret;exact ⟨rfl,HB0.out _⟩
theorem sF (f:ByteArray->List UInt8) (xs:List ByteArray) (A:Option Addr) (c:Nat) (w:World) (H:Slc 1 RN w A c xs) (hz:Sm (comP (xs.map f))) (hl:xs.length<=1000000)
 (hF:∀x∈xs,∀W,Below w.heap.size w W->Calls Tryz.prog 30 #[.string x] W fun e' w'=>e' = .returned (tx (f x))/\Below W.heap.size W w'):
 Calls Tryz.prog 29 #[.slice A xs.length c,.func (.func 30) #[] #[]] w fun e' w'=>e' = .returned (tx (comP (xs.map f)))/\Below w.heap.size w w':=by
 obtain ⟨iS,iS0,iS1,iS2,iS3⟩:=info_parts lT;have hle:=H.le;have hbig:=H.big;have HS:=aF H;have HF:=aF hF;have HZ:=aF hz;clear H hF hz;go_enter Tryz.func29,Tryz.ntmps29
 go_wp2_with fail
 go_loopw [5,7,10] (fun v q i wr=>∃(k:Nat) (acc:List (List UInt8)),k<=xs.length/\i = .int .i64 k/\q=q/\acc.length=k/\Hid (acc=(xs.take k).map f)/\Hid (wr.ownsRow w.heap.size 9 1 v k (acc.map tx))/\Hid (Below w.heap.size w wr)) (fun _ _ i _=>xs.length - (intOf i).toNat)
 case atStart=>exact ⟨0,[],by omega,rfl,rfl,rfl,aF rfl,aF (World.ownsRow_nil _ _ _ _),aF (aX _ _)⟩
 case round=>
  obtain ⟨k,acc,hk,rfl,_,hal,HA,HO,HB⟩:=hrel;have hsz:=HB.out.size;by_cases hlt:k<xs.length
  ·obtain ⟨b,o,rfl,hb,y⟩:=(HS.out.keep RN.keeps HB.out).sl.at_ hlt;have HX0:=aF (HF.out xs[k] (bN hlt));have HA2:Hid (acc ++ [f xs[k]]=(xs.take (k+1)).map f):=aF (by rw [HA.out,bF hlt,bU];rfl);have x0:wr.cell? ⟨b,o+k,none⟩=some (.string xs[k]):=by simpa [RN] using y
   generalize xs[k]=x at *;obtain ⟨fx,hfx⟩:∃fx,f x=fx:=⟨_,rfl⟩;rw [hfx] at HX0 HA2;have HBA:=HB;have hbs:=cY hb;clear y
   go_wp2_with (first
    | (go_at_call 30;refine (HX0.out _ HB.out).mono ?_;rintro e' w1 ⟨rfl,hb1⟩;have HB1:=aF (HBA.out.trans (hb1.mono HBA.out.size));have hsz1:=HB1.out.size;have HO1:=aF (dB HO.out hb1);clear hb1)
    | (at_builtin;refine wpList_append_own _ rfl _ _ 22 rfl w.heap.size 9 iS (.string { data:= #[] }) 1 16 Tryz.underlying22 iS0 iS1 iS2 iS3 rfl (by decide) _ _ _ rfl (HO1.out.alloc (.cells #[tx fx] 9)) ⟨w1.heap.size,0,none⟩ 1 1 [tx fx] rfl rfl (mC _ _) (mB _) (by unfold maxLen;omega) (by omega) (by simp;omega) ?_))
   intro v' w2 hown' hgrow _;have HO2:Hid (w2.ownsRow w.heap.size 9 1 v' (k+1) ((acc ++ [fx]).map tx)):=aF (by rw [bU];exact hown');have HB2:Hid (Below w.heap.size w w2):=aF ((HB1.out.alloc hsz1 _).grown hgrow (by simp;omega) (fun g hg=>((HO1.out.alloc (.cells #[tx fx] 9)).lt g hg).1));clear hown' hgrow;go_wp2_with fail
   go_roundw
   case rel=>exact ⟨k+1,acc ++ [fx],by omega,by go_num,trivial,by simp [hal],HA2,HO2,HB2⟩
   case measure=>simp [intOf];omega
  ·have hkl:k=xs.length:=by omega
   have HAF:Hid (acc=xs.map f):=aF (by rw [HA.out,hkl,cA]);have HJ:=aF (gQ HO.out hal.symm (by rw [HAF.out];exact HZ.out) (by omega));clear HA;go_wp2_with (go_at_call 73;refine HJ.out.mono ?_;rintro e' w1 ⟨rfl,hb1⟩)
   go_ret;exact ⟨by rw [HAF.out];rfl,HB.out.trans (hb1.mono HB.out.size)⟩
theorem sG (q:Nat) (f:(Int × Int)->List UInt8) (xs:List (Int × Int)) (A:Option Addr) (c:Nat) (w:World) (H:Slc 2 RPr w A c xs) (hz:Sm (comP (xs.map f))) (hl:xs.length<=1000000)
 (hF:∀x∈xs,∀W,Below w.heap.size w W->Calls Tryz.prog 32 #[.agg #[.int .i64 x.1,.int .i64 x.2],.pointer (some ⟨q,0,none⟩)] W fun e' w'=>e' = .returned (tx (f x))/\Below W.heap.size W w'):
 Calls Tryz.prog 31 #[.slice A xs.length c,.func (.func 32) #[] #[.pointer (some ⟨q,0,none⟩)]] w fun e' w'=>e' = .returned (tx (comP (xs.map f)))/\Below w.heap.size w w':=by
 obtain ⟨iS,iS0,iS1,iS2,iS3⟩:=info_parts lT;have hle:=H.le;have hbig:=H.big;have HS:=aF H;have HF:=aF hF;have HZ:=aF hz;clear H hF hz;go_enter Tryz.func31,Tryz.ntmps31
 go_wp2_with fail
 go_loopw [5,7,10] (fun v q i wr=>∃(k:Nat) (acc:List (List UInt8)),k<=xs.length/\i = .int .i64 k/\q=q/\acc.length=k/\Hid (acc=(xs.take k).map f)/\Hid (wr.ownsRow w.heap.size 9 1 v k (acc.map tx))/\Hid (Below w.heap.size w wr)) (fun _ _ i _=>xs.length - (intOf i).toNat)
 case atStart=>exact ⟨0,[],by omega,rfl,rfl,rfl,aF rfl,aF (World.ownsRow_nil _ _ _ _),aF (aX _ _)⟩
 case round=>
  obtain ⟨k,acc,hk,rfl,_,hal,HA,HO,HB⟩:=hrel;have hsz:=HB.out.size;by_cases hlt:k<xs.length
  ·obtain ⟨b,o,rfl,hb,y⟩:=(HS.out.keep RPr.keeps HB.out).sl.at_ hlt;have HX0:=aF (HF.out xs[k] (bN hlt));have HA2:Hid (acc ++ [f xs[k]]=(xs.take (k+1)).map f):=aF (by rw [HA.out,bF hlt,bU];rfl);obtain ⟨x0,x1⟩:=y;generalize xs[k]=x at *;obtain ⟨p1,p2⟩:=x;simp only at x0 x1 HX0;obtain ⟨fx,hfx⟩:∃fx,f (p1,p2)=fx:=⟨_,rfl⟩;rw [hfx] at HX0 HA2;have y:=hlt;have HBA:=aF (HB.out.alloc hsz (.cells #[.int .i64 p1,.int .i64 p2] 77));have HOA:=aF (HO.out.alloc (.cells #[.int .i64 p1,.int .i64 p2] 77));have hbs:=cY hb;clear y
   go_wp2_with (first
    | (go_at_call 32;refine (HX0.out _ HBA.out).mono ?_;rintro e' w1 ⟨rfl,hb1⟩;have HB1:=aF (HBA.out.trans (hb1.mono HBA.out.size));have hsz1:=HB1.out.size;have HO1:=aF (dB HOA.out hb1);clear hb1)
    | (at_builtin;refine wpList_append_own _ rfl _ _ 22 rfl w.heap.size 9 iS (.string { data:= #[] }) 1 16 Tryz.underlying22 iS0 iS1 iS2 iS3 rfl (by decide) _ _ _ rfl (HO1.out.alloc (.cells #[tx fx] 9)) ⟨w1.heap.size,0,none⟩ 1 1 [tx fx] rfl rfl (mC _ _) (mB _) (by unfold maxLen;omega) (by omega) (by simp;omega) ?_))
   intro v' w2 hown' hgrow _;have HO2:Hid (w2.ownsRow w.heap.size 9 1 v' (k+1) ((acc ++ [fx]).map tx)):=aF (by rw [bU];exact hown');have HB2:Hid (Below w.heap.size w w2):=aF ((HB1.out.alloc hsz1 _).grown hgrow (by simp;omega) (fun g hg=>((HO1.out.alloc (.cells #[tx fx] 9)).lt g hg).1));clear hown' hgrow;go_wp2_with fail
   go_roundw
   case rel=>exact ⟨k+1,acc ++ [fx],by omega,by go_num,trivial,by simp [hal],HA2,HO2,HB2⟩
   case measure=>simp [intOf];omega
  ·have hkl:k=xs.length:=by omega
   have HAF:Hid (acc=xs.map f):=aF (by rw [HA.out,hkl,cA]);have HJ:=aF (gQ HO.out hal.symm (by rw [HAF.out];exact HZ.out) (by omega));clear HA;go_wp2_with (go_at_call 73;refine HJ.out.mono ?_;rintro e' w1 ⟨rfl,hb1⟩)
   go_ret;exact ⟨by rw [HAF.out];rfl,HB.out.trans (hb1.mono HB.out.size)⟩
theorem fT (n l:Int) (w:World):Calls Tryz.prog 88 #[.int .i64 n,.int .i64 l] w fun e' w'=>e' = .returned (.bool (decide (0<=n/\n<l)))/\w'=w:=by
 obtain ⟨R,hR⟩:∃R,decide (0<=n/\n<l)=R:=⟨_,rfl⟩;rw [hR];have HR:=aF hR;clear hR;go_enter Tryz.func88,Tryz.ntmps88
 go_wp2_with fail
 all_goals (go_ret;refine ⟨?_,rfl⟩;rw [<- HR.out];simp;try omega)
theorem sB (l:List Ln) (p r:Int) (A:Option Addr) (c:Nat) (w:World) (hs:Slc 5 RLn w A c l):
 Calls Tryz.prog 86 #[.slice A l.length c,.int .i64 p,.int .i64 r] w fun e' w'=>e' = .returned (.int .i64 (losE p r none l))/\Below w.heap.size w w':=by
 have hle:=hs.le;have hbig:=hs.big;obtain ⟨R,hR⟩:∃R,losE p r none l=R:=⟨_,rfl⟩;rw [hR];have HR:=aF hR;have HS:=aF hs;clear hR hs;go_enter Tryz.func86,Tryz.ntmps86
 go_wp2_with fail
 go_loopw [6,12] (fun e v wr=>∃k:Nat,k<=l.length/\e = .int .i64 0/\v = .int .i64 k/\Hid (Below w.heap.size w wr)/\Hid (R=losE p r (prevL l k) (l.drop k))) (fun _ v _=>l.length - (intOf v).toNat)
 case atStart=>exact ⟨0,by omega,rfl,rfl,aF (aX _ _),aF HR.out.symm⟩
 case round=>
  obtain ⟨k,hk,rfl,rfl,hB,hr⟩:=hrel;by_cases hlt:k<l.length
  case neg=>
   have HN:Hid (R=0):=aF (by rw [hr.out,bE (by omega)];rfl);clear hr;go_wp2_with fail
   go_ret;exact ⟨by rw [HN.out];rfl,hB.out⟩
  case pos=>
  have hd:=cS hlt;have hsl:=(HS.out.keep RLn.keeps hB.out).sl;obtain ⟨b,o,rfl,hb,hx⟩:=hsl.at_ hlt;have HP:Hid (prevL l (k+1)=some l[k]):=aF (by unfold prevL;rw [aZ (by omega)];simp [hlt])
  have HQ:Hid (∀j,k=j+1->∃q,prevL l k=some q/\RLn wr wr.heap.size b (o+j * 5) q):=aF (fun j hj=>by
   obtain ⟨b',o',hbo,_,hz⟩:=hsl.at_ (show j<l.length by omega);obtain ⟨rfl,rfl⟩:b=b'/\o=o':=by simpa using hbo
   exact ⟨l[j],by unfold prevL;rw [aZ (by omega),show k - 1=j by omega];exact bD (by omega),hz⟩)
  obtain ⟨x,hp⟩:∃x,l[k]=x:=⟨_,rfl⟩;rw [hp] at hd hx HP;obtain ⟨x0,x1,x2,x3,PA,pc,x4,p1,p2,p3⟩:=hx;have HN:Hid (R=if loE p r (prevL l k) x=0 then losE p r (some x) (l.drop (k+1)) else loE p r (prevL l k) x):=aF (by rw [hr.out,hd,lR]);have HSP:Hid (Slc 2 RPj wr PA pc x.place.proj):=aF ⟨p3,p1,p2⟩;have hsz:=hB.out.size;obtain ⟨xr,xp,xm,xl,xj⟩:=x;simp only at x0 x1 x2 x3 x4 p1 HSP;obtain ⟨W1,hW1⟩:∃W,wr.alloc (.cells #[.int .i64 xr,.int .i64 xp,.bool xm,.int .i64 xl,.slice PA xj.length pc] 95)=W:=⟨_,rfl⟩;have hbW:Below wr.heap.size wr W1:=by rw [<- hW1];exact (aX _ _).alloc (aY _) _
  have HBW:=aF (hB.out.trans (hbW.mono hsz));have n0:=cP wr [.int .i64 xr,.int .i64 xp,.bool xm,.int .i64 xl,.slice PA xj.length pc] 95;simp only [hW1] at n0;have n0r:=n0 0 _ rfl;have n0p:=n0 1 _ rfl;have n0m:=n0 2 _ rfl;have n0l:=n0 3 _ rfl;have n0j:=n0 4 _ rfl;clear hd hr hsl hp p1 p3;by_cases h1:0<=xr/\xr<r
  case neg=>
   have HF:Hid (R=3):=aF (by rw [HN.out,lS (by simp only;omega)];rfl);have e1:decide (0<=xr/\xr<r)=false:=decide_eq_false h1;clear HN h1 n0;go_wp2_with (go_at_call 88;refine (fT _ _ _).mono ?_;rw [e1];rintro e' w1 ⟨rfl,hw⟩;obtain rfl:=hw.symm)
   go_ret;exact ⟨by rw [HF.out];rfl,HBW.out⟩
  case pos=>
  have e1:decide (0<=xr/\xr<r)=true:=decide_eq_true h1;by_cases h2:0<=xp/\xp<p
  case neg=>
   have HF:Hid (R=3):=aF (by rw [HN.out,lS (by simp only;omega)];rfl);have e2:decide (0<=xp/\xp<p)=false:=decide_eq_false h2;clear HN h1 h2 n0;go_wp2_with (go_at_call 88;refine (fT _ _ _).mono ?_;(first | rw [e1] | rw [e2]);rintro e' w1 ⟨rfl,hw⟩;obtain rfl:=hw.symm)
   go_ret;exact ⟨by rw [HF.out];rfl,HBW.out⟩
  case pos=>
  have e2:decide (0<=xp/\xp<p)=true:=decide_eq_true h2;have hrg:¬(xr<0\/r<=xr\/xp<0\/p<=xp):=by omega
  have HC:=aF (fC xl PA pc xj W1 (HSP.out.keep RPj.keeps hbW));by_cases hck:chk xl xj=0
  case neg=>
   have HF:Hid (R=chk xl xj):=aF (by rw [HN.out,yC hrg hck,aZ hck]);have e3:(chk xl xj != 0)=true:=by simp [hck]
   generalize chk xl xj=ck at *;clear HN h1 h2 n0 hrg hck
   go_wp2_with (first
    | (go_at_call 88;refine (fT _ _ _).mono ?_;(first | rw [e1] | rw [e2]);rintro e' w1 ⟨rfl,hw⟩;obtain rfl:=hw.symm)
    | (go_at_call 52;refine HC.out.mono ?_;rintro e' w1 ⟨rfl,hw⟩))
   go_ret;exact ⟨by rw [HF.out];rfl,HBW.out.trans (hw.mono HBW.out.size)⟩
  case pos=>
  have e3:(chk xl xj != 0)=false:=by simp [hck]
  rw [hck] at HC e3;rcases (show k=0\/∃j,k=j+1 from by cases k;exact .inl rfl;exact .inr ⟨_,rfl⟩) with rfl | ⟨j,rfl⟩
  ·have HF:Hid (R=losE p r (prevL l 1) (l.drop 1)):=aF (by rw [HN.out,show prevL l 0=none from rfl,vI hrg hck,bA rfl,HP.out]);clear HN h1 h2 n0 hrg hck;simp only [Nat.zero_mul,Nat.add_zero] at x0 x1 x2 x3 x4
   go_wp2_with (first
    | (go_at_call 88;refine (fT _ _ _).mono ?_;(first | rw [e1] | rw [e2]);rintro e' w1 ⟨rfl,hw⟩;obtain rfl:=hw.symm)
    | (go_at_call 52;refine HC.out.mono ?_;rintro e' w2 ⟨rfl,hw⟩))
   have hS:True:=trivial;refine eM (S:=fun _=>True) (by kernel_rfl) ?_;(iterate 3 (refine dG (v:=?_) (by kernel_rfl) (fun _ _ _ h=>h) (Or.inl ⟨by rfl,?_⟩) hS ?_;rotate_left;(next=>(rintro X _;(try simp only [aJ]);go_simp;rfl));simp only [aJ,Act.put,aK]));(iterate 9 (refine dG (v:=undef) (by kernel_rfl) (fun _ _ _ h=>h) (Or.inr ⟨by rfl,rfl⟩) hS ?_;simp only [aJ,Act.put,aK]));((refine dG (v:=?_) (by kernel_rfl) (fun _ _ _ h=>h) (Or.inl ⟨by rfl,?_⟩) hS ?_;rotate_left;(next=>(rintro X _;(try simp only [aJ]);go_simp;rfl));simp only [aJ,Act.put,aK]))
   refine eW rfl ?_;go_wp2_with fail
   go_roundw
   case rel=>exact ⟨1,by omega,rfl,by go_num,aF (HBW.out.trans (hw.mono HBW.out.size)).drew,HF⟩
   case measure=>simp [intOf];omega
  ·obtain ⟨q,hq,q0,q1,-⟩:=HQ.out j rfl
   have HF:Hid (R=if xp<=q.pt then 21 else losE p r (prevL l (j+1+1)) (l.drop (j+1+1))):=aF (by
    rw [HN.out,hq,vH hrg hck,HP.out]
    split <;> simp)
   have HQ1:Hid (∀W,Below W1.heap.size W1 W->W.cell? ⟨b,o+j * 5+1,none⟩=some (.int .i64 q.pt)):=aF (fun W h=>cJ h ((hbW.cell (p:=⟨b,o+j * 5+1,none⟩) hb).trans q1));have HN1:Hid (∀W,Below W1.heap.size W1 W->W.cell? ⟨wr.heap.size,1,none⟩=some (.int .i64 xp)):=aF (fun W h=>cJ h n0p);generalize q.pt=qp at HF HQ1;clear HN h1 h2 n0 hrg hck hq q0 q1;have hwk:IntKind.i64.wrap (j:Int)=(j:Int):=by rw [IntKind.wrap_i64];omega
   have hj1:(j:Int)<(l.length:Int):=by omega
   go_wp2_with (first
    | (go_at_call 88;refine (fT _ _ _).mono ?_;(first | rw [e1] | rw [e2]);rintro e' w1 ⟨rfl,hw⟩;obtain rfl:=hw.symm)
    | (go_at_call 52;refine HC.out.mono ?_;rintro e' w2 ⟨rfl,hw⟩))
   have hS:w2.drew.cell? ⟨b,o+j * 5+1,none⟩=some (.int .i64 qp)/\w2.drew.cell? ⟨wr.heap.size,1,none⟩=some (.int .i64 xp):=⟨HQ1.out _ hw.drew,HN1.out _ hw.drew⟩;refine eM (S:=fun X=>X.cell? ⟨b,o+j * 5+1,none⟩=some (.int .i64 qp)/\X.cell? ⟨wr.heap.size,1,none⟩=some (.int .i64 xp)) (by kernel_rfl) ?_;(iterate 13 (refine dG (v:=?_) (by kernel_rfl) (fun _ _ _ h=>h) (Or.inl ⟨by rfl,?_⟩) hS ?_;rotate_left;(next=>(rintro X ⟨s1,s2⟩;(try simp only [aJ]);go_simp;rfl));simp only [aJ,Act.put,aK]));refine eW rfl ?_;by_cases hcm:xp<=qp
   ·have HF':Hid (R=21):=aF (by rw [HF.out,bA hcm]);have hd1:decide (xp<=qp)=true:=decide_eq_true hcm;clear HF;go_wp2_with fail
    go_ret;exact ⟨by rw [HF'.out];rfl,(HBW.out.trans (hw.mono HBW.out.size)).drew⟩
   ·have HF':Hid (R=losE p r (prevL l (j+1+1)) (l.drop (j+1+1))):=aF (by rw [HF.out,aZ hcm]);have hd1:decide (xp<=qp)=false:=decide_eq_false hcm;clear HF;go_wp2_with fail
    go_roundw
    case rel=>exact ⟨j+1+1,by omega,rfl,by go_num,aF (HBW.out.trans (hw.mono HBW.out.size)).drew,HF'⟩
    case measure=>simp [intOf];omega
end
end Go.Proofs.YtmknfbfppmkcfaaGreatDoor
