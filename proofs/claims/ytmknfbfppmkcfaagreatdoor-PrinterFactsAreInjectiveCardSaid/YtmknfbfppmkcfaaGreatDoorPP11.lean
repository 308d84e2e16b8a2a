/-
  Parts of the proof: Y3 Y4.
-/
import Derived.Test.YtmknfbfppmkcfaaGreatDoorPP0
import Derived.Test.YtmknfbfppmkcfaaGreatDoorPP1
import Derived.Laws.IdiomStrings
namespace Go.Proofs.YtmknfbfppmkcfaaGreatDoor
set_option maxRecDepth 100000
set_option maxHeartbeats 16000000
section
open Go Go.RowKit
theorem vY (w:World) (b:Nat) (c:UInt8) (h:w.cell? ⟨b,0,none⟩=some (.int .u8 c.toNat)):
 (convert 68 9 (.slice (some ⟨b,0,none⟩) 1 1)).run Tryz.prog w = .ok (tx [c]) w:=
 run_convert_bytes_back w _ _ 5 ⟨b,0,none⟩ 1 [c] Tryz.underlying68 Tryz.underlying5 Tryz.underlying9 (fun j hj=>by
  obtain rfl:j=0:=by simpa using hj
  exact h)
theorem uV (n:Int) (h0 : -9223372036854775808<=n) (h1:n<=9223372036854775807) (w:World):
 Calls Tryz.prog 82 #[.int .i64 n] w fun e' w'=>e' = .returned (tx (Lib.itoa n))/\Below w.heap.size w w':=by
 obtain ⟨R,hR⟩:∃R,Lib.decDigits n.natAbs=R:=⟨_,rfl⟩;have HR:=aF hR
 have hRl:R.length<=21:=by
  have:=Lib.itoa_length_le n h0 h1;unfold Lib.itoa at this;rw [<- hR];split at this
  ·rw [bK] at this;omega
  ·rw [show n.toNat=n.natAbs by omega] at this;exact this
 clear hR;go_enter Tryz.func82,Tryz.ntmps82
 go_wp2_with fail
 go_loopw [3,4,5] (fun s m d wr=>∃(l:List UInt8) (x:Int),s=tx l/\m = .int .i64 x/\d=d/\ -9223372036854775808<=x/\x<=9223372036854775807/\Hid (R=Lib.decDigits x.natAbs ++ l)/\Hid (Below w.heap.size w wr)) (fun _ m _ _=>(intOf m).natAbs)
 case atStart=>exact ⟨[],n,rfl,rfl,rfl,h0,h1,aF (by rw [HR.out];simp),aF (aX _ _)⟩
 case round=>
  obtain ⟨l,x,rfl,rfl,_,hx0,hx1,HG,HB⟩:=hrel;obtain ⟨D,hD⟩:∃D,(x.tmod 10).natAbs=D:=⟨_,rfl⟩;have hlt:D<10:=by rw [<- hD,Int.natAbs_tmod];exact Nat.mod_lt _ (by decide)
  have hw:(48+(D:Int))=((UInt8.ofNat (48+D)).toNat:Int):=by
   rw [UInt8.toNat_ofNat'];omega
  obtain ⟨c,hc⟩:∃c,UInt8.ofNat (48+D)=c:=⟨_,rfl⟩;have HC:=aF hc;rw [hc] at hw;have HCV:=aF (fun (W:World)=>vY (W.alloc (.cells #[.int .u8 (48+(D:Int))] 5)) W.heap.size c (by rw [World.cell?_alloc_at _ _ _ _ (by simp),<- hw];rfl));have hcv:=HCV.out wr
  have hll:l.length<=21:=by
   have:=congrArg List.length HG.out;rw [bB] at this;omega
  have hz1:¬(9223372036854775807<1+l.length):=by omega
  have hz2:¬(9223372036854775807<1+(l.length+1)):=by omega
  clear hll;clear hc hw HCV;have ea:(⟨#[c]⟩:ByteArray) ++ ⟨l.toArray⟩=⟨(c :: l).toArray⟩:=fH [c] l;have eb:∀r:List UInt8,(⟨#[45]⟩:ByteArray) ++ ⟨r.toArray⟩=⟨(45 :: r).toArray⟩:=fun r=>fH [45] r
  have HL:Hid (R=(if -10<x/\x<10 then c :: l else Lib.decDigits (x.tdiv 10).natAbs ++ c :: l)):=aF (by
   rw [HG.out,<- HC.out,<- hD];split
   ·rename_i h;exact (vS h.1 h.2 l).symm
   ·rename_i h;exact (vR h l).symm)
  have HT:Hid (¬(-10<x/\x<10)->(x.tdiv 10).natAbs<x.natAbs/\ -9223372036854775808<=x.tdiv 10/\x.tdiv 10<=9223372036854775807):=aF (fun h=>by
   have:(x.tdiv 10).natAbs=x.natAbs / 10:=Int.natAbs_tdiv x 10
   omega)
  have HS:Hid (x.tmod 10<0\/0<=x.tmod 10):=aF (by omega);have hq:(-10<x/\x<10)\/¬(-10<x/\x<10):=by omega
  have hsg:(0<=x.tmod 10/\x.tmod 10=D)\/(x.tmod 10<0/\x.tmod 10 = -(D:Int)):=by omega
  clear HG hD HC;rcases hsg with ⟨hs,e0⟩ | ⟨hs,e0⟩
  all_goals rcases hq with ⟨q1,q2⟩ | q
  case inl.inl | inr.inl=>
   have HF:Hid (R=c :: l):=aF (by rw [HL.out,bA ⟨q1,q2⟩]);clear HL HT HS;rcases Int.lt_or_le n 0 with hn | hn
   ·have HE:Hid (Lib.itoa n=45 :: c :: l):=aF (by unfold Lib.itoa;rw [bA hn,HR.out,HF.out]);clear HF;go_wp2_with fail
    go_ret;exact ⟨by rw [HE.out];rfl,by have hb0:=HB.out;have hb1:=hb0.size;exact aH⟩
   ·have HE:Hid (Lib.itoa n=c :: l):=aF (by unfold Lib.itoa;rw [aZ (by omega),show n.toNat=n.natAbs by omega,HR.out,HF.out]);clear HF;go_wp2_with fail
    go_ret;exact ⟨by rw [HE.out];rfl,by have hb0:=HB.out;have hb1:=hb0.size;exact aH⟩
  all_goals
   have HF:Hid (R=Lib.decDigits (x.tdiv 10).natAbs ++ c :: l):=aF (by rw [HL.out,aZ q]);have hq2:x <= -10\/(-10<x/\10<=x):=by omega
   have HT2:=aF (HT.out q);have hy1:=(HT.out q).2.1;have hy2:=(HT.out q).2.2;clear HL HT HS q;obtain ⟨y,hy⟩:∃y,x.tdiv 10=y:=⟨_,rfl⟩;rw [hy] at HF HT2 hy1 hy2;rcases hq2 with q1 | ⟨q1,q2⟩
   all_goals
    go_wp2_with fail
    exact ⟨⟨c :: l,y,rfl,rfl,trivial,HT2.out.2.1,HT2.out.2.2,HF,aF (by have hb0:=HB.out;have hb1:=hb0.size;exact aH)⟩,HT2.out.1⟩
theorem uT (n:Int) (h0 : -9223372036854775808<=n) (h1:n<=9223372036854775807) (w:World):
 Calls Tryz.prog 39 #[.int .i64 n] w fun e' w'=>e' = .returned (tx (Lib.itoa n))/\Below w.heap.size w w':=by
 have HD:=aF (fun W=>uV n h0 h1 W);go_enter Tryz.func39,Tryz.ntmps39
 go_wp2_with (go_at_call 82;refine (HD.out _).mono ?_;rintro e' w1 ⟨rfl,hb1⟩)
 go_ret;exact ⟨rfl,hb1⟩
def fitJ (x:Pj):Prop:= -9223372036854775808<=x.field/\x.field<=9223372036854775807
abbrev Sm (l:List UInt8):Prop:=l.length<=140737488355328
theorem nm_at {ls:List Lc} {k:Nat} (h:k<ls.length):nmP ls (k:Int)=bl (ls[k]).name:=by
 unfold nmP;rw [bW,bD h];rfl
theorem ba_l (a:List UInt8) (b:Array UInt8):(⟨a.toArray⟩:ByteArray) ++ ⟨b⟩=⟨(a ++ b.toList).toArray⟩:=ba_app' _ _
theorem ba_r (a:Array UInt8) (b:List UInt8):(⟨a⟩:ByteArray) ++ ⟨b.toArray⟩=⟨(a.toList ++ b).toArray⟩:=ba_app' _ _
theorem pE (b:Bdy) (bh:BH) (p:Plc) (A:Option Addr) (c:Nat) (w:World) (H:BdAt w b bh) (hp:Slc 2 RPj w A c p.proj) (hl:okI b.locals.length p.loc) (hf:∀x∈p.proj,fitJ x) (hz:Sm (placeP b.locals p)):
 Calls Tryz.prog 50 #[.agg (bdC b bh).toArray,.agg #[.int .i64 p.loc,.slice A p.proj.length c]] w fun e' w'=>e' = .returned (tx (placeP b.locals p))/\Below w.heap.size w w':=by
 obtain ⟨i,ps⟩:=p;simp only at hp hl hf ⊢;obtain ⟨k,rfl⟩:=bG hl.1;have hk:k<b.locals.length:=by have:=hl.2;omega
 obtain ⟨bb,oo,hA4,hbb,hx⟩:=H.loc.sl.at_ hk;have hle:=H.loc.le;have hbig:=H.loc.big;have hle2:=hp.le;have hbig2:=hp.big;have HP:=aF hp;have HF:=aF hf;obtain ⟨nm,hnm⟩:∃nm:List UInt8,bl (b.locals[k]).name=nm:=⟨_,rfl⟩;have x0:w.cell? ⟨bb,oo+k * 2,none⟩=some (tx nm):=by rw [<- hnm];have:=hx.1;rw [jG (b.locals[k]).name] at this;exact this
 obtain ⟨R,hR⟩:∃R,placeP b.locals ⟨k,ps⟩=R:=⟨_,rfl⟩;rw [hR] at hz ⊢;have HR:Hid (R=37 :: (nm ++ pjsP ps)):=aF (by rw [<- hR];unfold placeP;simp only;rw [nm_at hk,hnm])
 have hz0:¬(9223372036854775807<1+nm.length):=by
  have:=congrArg List.length HR.out;rw [bK,bB] at this;omega
 have HZ:=aF hz;have HN:=aF (fun (x:Pj) (hx:fitJ x) W=>uT x.field hx.1 hx.2 W);obtain ⟨A1,c1,A2,c2,A3,c3,A4,c4,A5,c5⟩:=bh;simp only at hA4 hle hbig hx;subst hA4;have e1:=ba_r #[37] nm;clear hR hx hnm hp hf hl hz H;unfold bdC at *;go_enter Tryz.func50,Tryz.ntmps50
 go_wp2_with fail
 go_loopw [5,6] (fun s v wr=>∃(l:List UInt8) (j:Nat),s=tx l/\v = .int .i64 j/\j<=ps.length/\Hid (R=l ++ pjsP (ps.drop j))/\Hid (Below w.heap.size w wr)/\Hid (wr.cell? ⟨w.heap.size+1,1,none⟩=some (.slice A ps.length c))) (fun _ v _=>ps.length - (intOf v).toNat)
 case atStart=>exact ⟨37 :: nm,0,rfl,rfl,Nat.zero_le _,aF (by rw [HR.out];rfl),aF aH,aF (by
  rw [World.cell?_alloc_at _ _ _ _ (by simp)];rfl)⟩
 case round=>
  obtain ⟨l,j,rfl,rfl,hj,HG,HB,HY⟩:=hrel;have y1:=HY.out;clear x0 hz0 e1;by_cases hlt:j<ps.length
  case neg=>
   have HE:Hid (R=l):=aF (by rw [HG.out,bE (by omega)];simp [pjsP]);clear HG;go_wp2_with fail
   go_ret;exact ⟨by rw [HE.out];rfl,HB.out⟩
  case pos=>
   have hd:=cS hlt;obtain ⟨b1,o1,rfl,hb1,z0,z1⟩:=(HP.out.keep RPj.keeps HB.out).sl.at_ hlt;have hfx:fitJ ps[j]:=HF.out _ (bN hlt);obtain ⟨x,hx⟩:∃x,ps[j]=x:=⟨_,rfl⟩;rw [hx] at hd z0 z1 hfx;obtain ⟨m,f⟩:=x;have HX:=aF (HN.out ⟨m,f⟩ hfx);have HL:Hid (R=l ++ (pjP ⟨m,f⟩ ++ pjsP (ps.drop (j+1)))):=aF (by rw [HG.out,hd];rfl);simp only at z0 z1 HX;clear HG hd hx;obtain ⟨t,ht⟩:∃t,Lib.itoa f=t:=⟨_,rfl⟩;have hj1:(j:Int)+1<=9223372036854775807:=by omega
   rcases Decidable.em (m=0) with rfl | hm
   ·have HQ:Hid (R=(l ++ [46,42]) ++ pjsP (ps.drop (j+1))):=aF (by rw [HL.out];simp [pjP])
    have hs1:¬(9223372036854775807<l.length+2):=by
     have:=congrArg List.length HQ.out;have:=HZ.out;simp only [bB,bK,bP] at *;omega
    have ea:=ba_l l #[46,42];clear HL ht HX;go_wp2_with fail
    exact ⟨⟨l ++ [46,42],j+1,rfl,by go_num,by omega,HQ,HB,HY⟩,by simp [intOf];omega⟩
   ·have HQ:Hid (R=(l ++ 46 :: t) ++ pjsP (ps.drop (j+1))):=aF (by rw [HL.out];simp [pjP,hm,ht])
    have hs1:¬(9223372036854775807<l.length+(t.length+1)):=by
     have:=congrArg List.length HQ.out;have:=HZ.out;simp only [bB,bK] at *;omega
    have hs2:¬(9223372036854775807<1+t.length):=(by omega);have ea:(⟨l.toArray⟩:ByteArray) ++ ⟨(46 :: t).toArray⟩=⟨(l ++ 46 :: t).toArray⟩:=fH l (46 :: t);have eb:(⟨#[46]⟩:ByteArray) ++ ⟨t.toArray⟩=⟨(46 :: t).toArray⟩:=ba_r #[46] t;have em:(m == 0)=false:=by simp [hm]
    rw [ht] at HX;clear HL ht hm;go_wp2_with (go_at_call 39;refine (HX.out _).mono ?_;rintro e' w1 ⟨rfl,hb2⟩;have y2:=cJ hb2 y1)
    trace_state
    exact ⟨⟨l ++ 46 :: t,j+1,rfl,by go_num,by omega,HQ,aF (HB.out.trans (hb2.mono HB.out.size)),aF y2⟩,by simp [intOf];omega⟩
end
end Go.Proofs.YtmknfbfppmkcfaaGreatDoor
