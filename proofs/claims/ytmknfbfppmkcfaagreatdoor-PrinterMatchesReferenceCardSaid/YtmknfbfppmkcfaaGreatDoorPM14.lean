/-
  Parts of the proof: Y14 Y15 V68 Y6S Y6P Y30 Y31 Open.
-/
import Derived.Test.YtmknfbfppmkcfaaGreatDoorPM0
import Derived.Test.YtmknfbfppmkcfaaGreatDoorPM13
import Derived.Test.YtmknfbfppmkcfaaGreatDoorPM12
import Derived.Test.YtmknfbfppmkcfaaGreatDoorPM4
import Derived.Test.YtmknfbfppmkcfaaGreatDoorPM9
import Derived.Test.YtmknfbfppmkcfaaGreatDoorPM3
import Derived.Test.YtmknfbfppmkcfaaGreatDoorRows
import Derived.Test.YtmknfbfppmkcfaaGreatDoorPM1
import Derived.Test.YtmknfbfppmkcfaaGreatDoorPM10
import Derived.ProofKit
import Derived.Below
import Derived.Deep.Slices
import Derived.Deep.Fields
import Derived.Lib.SmallJoins
import Derived.OpenShut
import Derived.LaidMore
import Derived.Stop.Joined
import Derived.Stop.LaidErr
import Derived.Lay
import Derived.SevenTiedAt
namespace Go.Proofs.YtmknfbfppmkcfaaGreatDoor
set_option maxRecDepth 100000
set_option maxHeartbeats 16000000
section
open Go Go.RowKit
structure FitS (s:Stm):Prop where
 pj:∀x∈s.place.proj,fitJ x
 rv:FitR s.rv
theorem join3 (a c:List UInt8) (b:List UInt8):Lib.join [a,b,c] [32]=a ++ (32 :: (b ++ 32 :: c)):=by simp [Lib.join,List.intercalate]
theorem join2 (a b:List UInt8):Lib.join [a,b] [32]=a ++ 32 :: b:=by simp [Lib.join,List.intercalate]
theorem join1 (a:List UInt8):Lib.join [a] [32]=a:=by simp [Lib.join,List.intercalate]
theorem wT {w0:World} {B g:Nat} {b:Bdy} {bh:BH} {bs:List UInt8} {w:World} (H:Lives w0 B g b bh bs 2 w) (s:Stm) (A0 A A1:Option Addr) (c0 c c1:Nat) (hp:Slc 2 RPj w A0 c0 s.place.proj) (hq:Slc 2 RPj w A c s.rv.place.proj) (ha:Slc 4 ROp w A1 c1 s.rv.args)
 (ho:OkSt b.locals b.regions s) (hf:FitS s) (hz:bs.length+(stmtP b.locals b.regions s).length+200<=140737488355328) (hl:s.rv.args.length<=1000000):
 Calls Tryz.prog 36 #[.pointer (some ⟨g,0,none⟩),.agg #[.int .i64 s.kind,.int .i64 s.place.loc,.slice A0 s.place.proj.length c0,.int .i64 s.rv.kind,.int .i64 s.rv.op,.int .i64 s.rv.reg,.bool s.rv.mu,.int .i64 s.rv.place.loc,.slice A s.rv.place.proj.length c,.slice A1 s.rv.args.length c1,.int .i64 s.loc]] w fun e' w'=>e' = .returned (.tuple #[])/\Lives w0 B g b bh (bs ++ dR b.locals b.regions s) 2 w'/\Fr g w w':=by
 have HB0:=aF (fun (o:Obj)=>(aX w.heap.size w).alloc (aY _) o);have hk:=ho.kind;have HH:=aF H;obtain hk0 | hk0 | hk0:s.kind=0\/s.kind=1\/s.kind=2:=by omega
 ·obtain ⟨-,hpl,hrv⟩:=ho.asg hk0;have HE:Hid (stmtP b.locals b.regions s=placeP b.locals s.place ++ [32,61,32] ++ rvP b.locals b.regions s.rv):=aF (by unfold stmtP;rw [bA hk0]);obtain ⟨P1,hP1⟩:∃x,placeP b.locals s.place=x:=⟨_,rfl⟩;obtain ⟨V1,hV1⟩:∃x,rvP b.locals b.regions s.rv=x:=⟨_,rfl⟩;rw [hP1,hV1] at HE
  have hzl:bs.length+(P1.length+V1.length)+203<=140737488355328:=by
   rw [HE.out] at hz;simp only [bB,bK,bP] at hz;omega
  have HP:Hid (∀W,Below w.heap.size w W->Calls Tryz.prog 48 #[.pointer (some ⟨g,0,none⟩),.agg #[.int .i64 s.place.loc,.slice A0 s.place.proj.length c0]] W fun e' w'=>e' = .returned (tx P1)/\Below W.heap.size W w'):=aF (fun W hb=>by
   have C:=(H.keep hb).ctx;rw [<- hP1]
   exact fD b.locals g bh.A4 bh.c4 s.place A0 c0 W C.locs C.at_.loc (hp.keep RPj.keeps hb) hpl.loc hf.pj (by rw [hP1];show P1.length<=_;omega) C.pow)
  have HV:Hid (∀W,Below w.heap.size w W->Calls Tryz.prog 80 #[.pointer (some ⟨g,0,none⟩),.agg #[.int .i64 s.rv.kind,.int .i64 s.rv.op,.int .i64 s.rv.reg,.bool s.rv.mu,.int .i64 s.rv.place.loc,.slice A s.rv.place.proj.length c,.slice A1 s.rv.args.length c1]] W fun e' w'=>e' = .returned (tx V1)/\Below W.heap.size W w'):=aF (fun W hb=>by
   have C:=(H.keep hb).ctx;rw [<- hV1]
   exact xEC C (H.sp.keep (H.keep hb).low) s.rv A A1 c c1 (hq.keep RPj.keeps hb) (ha.keep ROp.keeps hb) hrv hf.rv (by rw [hV1];show V1.length<=_;omega) hl)
  have HL:Hid (∀W,Below w.heap.size w W->∀bk,RowT W bk [P1,[61],V1 ++ [59]]->Calls Tryz.prog 28 #[.pointer (some ⟨g,0,none⟩),.slice (some ⟨bk,0,none⟩) 3 3] W fun e' w'=>e' = .returned (.tuple #[])/\Lives w0 B g b bh (bs ++ dR b.locals b.regions s) 2 w'/\Fr g W w'):=aF (fun W hb bk hr=>by
   have h:=eB (H.keep hb) [P1,[61],V1 ++ [59]] (P1 ++ (32 :: 61 :: 32 :: V1)) bk hr (by rw [join3];simp) (by decide) (by simp) (by simp only [bB,bK];omega)
   rw [show bs ++ dR b.locals b.regions s=bs ++ (ind 2 ++ ((P1 ++ (32 :: 61 :: 32 :: V1)) ++ [59,10])) by
    unfold dR semP;rw [HE.out,show ind 2=[32,32,32,32] from rfl];simp]
   exact h)
  have hz1:¬(9223372036854775807<V1.length+1):=by omega
  clear H hp hq ha hpl hrv ho hf hz hzl hP1 hV1 HE;obtain ⟨k,⟨l0,ps⟩,⟨vk,vo,vr,vm,⟨l1,qs⟩,ar⟩,lo⟩:=s;simp only at hk0 HP HV HL hl hk ⊢;subst hk0;go_enter Tryz.func36,Tryz.ntmps36
  go_wp2_with fail
  have hne:g≠w.heap.size:=by have:=HH.out.st.lt;have:=HH.out.st.le;omega
  have hS:(w.alloc (.cells #[Value.int .i64 0,.int .i64 l0,.slice A0 ps.length c0,.int .i64 vk,.int .i64 vo,.int .i64 vr,.bool vm,.int .i64 l1,.slice A qs.length c,.slice A1 ar.length c1,.int .i64 lo] 87)).drew.heap[w.heap.size]?=some (.cells ([Value.int .i64 0,.int .i64 l0,.slice A0 ps.length c0,.int .i64 vk,.int .i64 vo,.int .i64 vr,.bool vm,.int .i64 l1,.slice A qs.length c,.slice A1 ar.length c1,.int .i64 lo]).toArray 87 (0,0)):=heap_alloc_new w _;refine cR (S:=fun X=>X.heap[w.heap.size]?=some (.cells ([Value.int .i64 0,.int .i64 l0,.slice A0 ps.length c0,.int .i64 vk,.int .i64 vo,.int .i64 vr,.bool vm,.int .i64 l1,.slice A qs.length c,.slice A1 ar.length c1,.int .i64 lo]).toArray 87 (0,0))) [0,1,2,3,5,6,7,4,8,9,10,11] (by kernel_rfl) ?_;(iterate 7 (refine cS (v:=?_) ?_ hS ?_;rotate_left;(next=>(rintro X hX;have hY:=cQ hX;obtain ⟨-,s1,s2,s3,s4,s5,s6,s7,s8,s9⟩:=aV hY;(try simp only [aI]);go_simp;rfl));simp only [aM]));(refine cV (fun K1 hK1=>?_);simp only [aM];rw [bA (by rfl)];go_simp);refine (HP.out _ (HB0.out _).drew).mono ?_;rintro e' w1 ⟨rfl,hb1⟩;replace hS:=cP hS hb1;have HB1:=aF ((HB0.out _).drew.trans (hb1.mono (HB0.out _).drew.size));clear hb1;refine hK1.out _ _ (fun _=>hS) ?_;(refine cV (fun K1 hK1=>?_);simp only [aM];rw [bA (by rfl)];go_simp);refine (HV.out _ HB1.out).mono ?_;rintro e' w2 ⟨rfl,hb2⟩;replace hS:=cP hS hb2;have HB2:=aF (HB1.out.trans (hb2.mono HB1.out.size));clear hb2;refine hK1.out _ _ (fun _=>hS) ?_;refine cU (v:=tx (V1 ++ [59])) (by kernel_rfl) (fun _ _ _ h=>h) (Or.inl ⟨by rfl,?_⟩) hS ?_
  ·rintro X hX;(try simp only [aI]);go_simp;exact ba_l V1 #[59]
  (simp only [aM]);(refine cV (fun K1 hK1=>?_);simp only [aM];rw [bA (by rfl)];go_simp);have HB3:=aF (HB2.out.alloc HB2.out.size (.cells #[tx P1,tx [61],tx (V1 ++ [59])] 9));replace hS:=cP hS ((aX w2.heap.size w2).alloc (aY _) (.cells #[tx P1,tx [61],tx (V1 ++ [59])] 9));refine hK1.out _ _ (fun _=>hS) ?_;(refine cV (fun K1 hK1=>?_);simp only [aM];rw [bA (by rfl)];go_simp);refine (HL.out _ HB3.out _ (dV w2 [P1,[61],V1 ++ [59]])).mono ?_;rintro e' w4 ⟨rfl,hl4,hf4⟩;replace hS:=heap_fr hS hf4 hne (by decide);have HL4:=aF hl4;have HF4:=aF ((Fr.of_below HB3.out).trans hf4);clear hl4 hf4;refine hK1.out _ _ (fun _=>hS) ?_;refine dA ?_;go_wp2_with fail
  go_end0
  exact ⟨rfl,HL4.out,HF4.out⟩
 ·have hlo:=ho.dead hk0;obtain ⟨P1,hP1⟩:∃x,placeP b.locals ⟨s.loc,[]⟩=x:=⟨_,rfl⟩;have HE:Hid (stmtP b.locals b.regions s=[100,101,97,100,32] ++ P1):=aF (by unfold stmtP;rw [aZ (by omega),bA hk0,<- hP1];simp [placeP,pjsP])
  have hzl:bs.length+P1.length+205<=140737488355328:=by
   rw [HE.out] at hz;simp only [bB,bK,bP] at hz;omega
  have HP:Hid (∀W,Below w.heap.size w W->Calls Tryz.prog 48 #[.pointer (some ⟨g,0,none⟩),.agg #[.int .i64 s.loc,.slice none 0 0]] W fun e' w'=>e' = .returned (tx P1)/\Below W.heap.size W w'):=aF (fun W hb=>by
   have C:=(H.keep hb).ctx;rw [<- hP1]
   exact fD b.locals g bh.A4 bh.c4 ⟨s.loc,[]⟩ none 0 W C.locs C.at_.loc ⟨Sl.nil,by simp,by omega⟩ hlo (fun x hx=>by cases hx) (by rw [hP1];show P1.length<=_;omega) C.pow)
  have HL:Hid (∀W,Below w.heap.size w W->∀bk,RowT W bk [[100,101,97,100],P1 ++ [59]]->Calls Tryz.prog 28 #[.pointer (some ⟨g,0,none⟩),.slice (some ⟨bk,0,none⟩) 2 2] W fun e' w'=>e' = .returned (.tuple #[])/\Lives w0 B g b bh (bs ++ dR b.locals b.regions s) 2 w'/\Fr g W w'):=aF (fun W hb bk hr=>by
   have h:=eB (H.keep hb) [[100,101,97,100],P1 ++ [59]] ([100,101,97,100,32] ++ P1) bk hr (by rw [join2];simp) (by decide) (by simp) (by simp only [bB,bK,bP];omega)
   rw [show bs ++ dR b.locals b.regions s=bs ++ (ind 2 ++ (([100,101,97,100,32] ++ P1) ++ [59,10])) by
    unfold dR semP;rw [HE.out,show ind 2=[32,32,32,32] from rfl];simp]
   exact h)
  have hz1:¬(9223372036854775807<P1.length+1):=by omega
  have ea:=ba_l P1 #[59];clear H hp hq ha ho hf hz hzl hP1 HE hlo;obtain ⟨k,⟨l0,ps⟩,⟨vk,vo,vr,vm,⟨l1,qs⟩,ar⟩,lo⟩:=s;simp only at hk0 HP HL hl hk ⊢;subst hk0;go_enter Tryz.func36,Tryz.ntmps36
  go_wp2_with (first
   | (go_at_call 48;refine (HP.out _ (HB0.out _)).mono ?_;rintro e' w1 ⟨rfl,hb1⟩;have HB1:=aF ((HB0.out _).trans (hb1.mono (HB0.out _).size));have HB3:=aF (HB1.out.alloc HB1.out.size (.cells #[tx [100,101,97,100],tx (P1 ++ [59])] 9));clear hb1)
   | (go_at_call 28;refine (HL.out _ HB3.out _ (dV w1 [[100,101,97,100],P1 ++ [59]])).mono ?_;rintro e' w4 ⟨rfl,hl4,hf4⟩;have HL4:=aF hl4;have HF4:=aF ((Fr.of_below HB3.out).trans hf4);clear hl4 hf4))
  go_end0
  exact ⟨rfl,HL4.out,HF4.out⟩
 ·have HE:Hid (stmtP b.locals b.regions s=[110,111,112]):=aF (by unfold stmtP;rw [aZ (by omega),aZ (by omega)]);have hzl:bs.length+205<=140737488355328+5:=by omega
  have HL:Hid (∀W,Below w.heap.size w W->∀bk,RowT W bk [[110,111,112,59]]->Calls Tryz.prog 28 #[.pointer (some ⟨g,0,none⟩),.slice (some ⟨bk,0,none⟩) 1 1] W fun e' w'=>e' = .returned (.tuple #[])/\Lives w0 B g b bh (bs ++ dR b.locals b.regions s) 2 w'/\Fr g W w'):=aF (fun W hb bk hr=>by
   have h:=eB (H.keep hb) [[110,111,112,59]] [110,111,112] bk hr (by rw [join1];rfl) (by decide) (by simp) (by simp only [bK,bP];omega)
   rw [show bs ++ dR b.locals b.regions s=bs ++ (ind 2 ++ ([110,111,112] ++ [59,10])) by
    unfold dR semP;rw [HE.out,show ind 2=[32,32,32,32] from rfl];simp]
   exact h)
  clear H hp hq ha ho hf hz hzl HE;obtain ⟨k,⟨l0,ps⟩,⟨vk,vo,vr,vm,⟨l1,qs⟩,ar⟩,lo⟩:=s;simp only at hk0 HL hl hk ⊢;subst hk0;go_enter Tryz.func36,Tryz.ntmps36
  have HB3:=aF (((HB0.out (.cells #[.int .i64 2,.int .i64 l0,.slice A0 ps.length c0,.int .i64 vk,.int .i64 vo,.int .i64 vr,.bool vm,.int .i64 l1,.slice A qs.length c,.slice A1 ar.length c1,.int .i64 lo] 87)).alloc (HB0.out _).size (.cells #[tx [110,111,112,59]] 9)))
  have HR0:Hid (RowT ((w.alloc (.cells #[.int .i64 2,.int .i64 l0,.slice A0 ps.length c0,.int .i64 vk,.int .i64 vo,.int .i64 vr,.bool vm,.int .i64 l1,.slice A qs.length c,.slice A1 ar.length c1,.int .i64 lo] 87)).alloc (.cells #[tx [110,111,112,59]] 9)) (w.heap.size+1) [[110,111,112,59]]):=aF (by
   have h:=dV (w.alloc (.cells #[.int .i64 2,.int .i64 l0,.slice A0 ps.length c0,.int .i64 vk,.int .i64 vo,.int .i64 vr,.bool vm,.int .i64 l1,.slice A qs.length c,.slice A1 ar.length c1,.int .i64 lo] 87)) [[110,111,112,59]];rw [bI] at h
   exact h)
  go_wp2_with (go_at_call 28;refine (HL.out _ HB3.out (w.heap.size+1) HR0.out).mono ?_;rintro e' w4 ⟨rfl,hl4,hf4⟩;have HL4:=aF hl4;have HF4:=aF ((Fr.of_below HB3.out).trans hf4);clear hl4 hf4)
  go_end0
  exact ⟨rfl,HL4.out,HF4.out⟩
structure FitTm (t:Trm):Prop where
 pj:∀x∈t.place.proj,fitJ x
 args:∀o∈t.args,FitO o
 tg:∀x∈t.targets,fitN x
theorem join4 (a b c d:List UInt8):Lib.join [a,b,c,d] [32]=a ++ (32 :: (b ++ (32 :: (c ++ 32 :: d)))):=by simp [Lib.join,List.intercalate]
theorem join5 (a b c d e:List UInt8):Lib.join [a,b,c,d,e] [32]=a ++ (32 :: (b ++ (32 :: (c ++ (32 :: (d ++ 32 :: e)))))):=by simp [Lib.join,List.intercalate]
theorem jG {X:World} {base n:Nat} {v:Value} {l:List (List UInt8)} (h:X.ownsRow base 9 1 v n (l.map tx)) (hn:n=l.length) (h0:l≠[]):
 ∃q cap cur,v = .slice (some ⟨q,0,none⟩) l.length cap/\base<=q/\l.length<=cap/\X.heap[q]?=some (.cells cur 9 (0,0))/\∀(j:Nat) x,l[j]?=some x->cur[j]?=some (tx x):=by
 subst hn;rcases h.2 with ⟨_,hz⟩ | ⟨q,cap,cur,rfl,hq,hh,hc,_,_,htk⟩
 ·exact absurd (bV hz) h0
 ·refine ⟨q,cap,cur,rfl,hq,hc,hh,fun j x hx=>?_⟩;rw [Nat.mul_one] at htk;have e:(cur.toList.take l.length)[j]?=some (tx x):=by rw [htk,cM,hx];rfl
  rw [List.getElem?_take] at e;split at e
  ·rw [<- Array.getElem?_toList];exact e
  ·cases e
theorem kD {X:World} {q:Nat} {cur:Array Value} {T:TypeId} (h:X.heap[q]?=some (.cells cur T (0,0))) {j:Nat} {v:Value} (hj:cur[j]?=some v):X.cell? ⟨q,j,none⟩=some v:=by
 simp [World.cell?,h,hj]
theorem wS {w0:World} {B g:Nat} {b:Bdy} {bh:BH} {bs:List UInt8} {w:World} (H:Lives w0 B g b bh bs 2 w) (t:Trm) (A1 A2 A3:Option Addr) (c1 c2 c3:Nat) (ht:Slc 1 RInt w A1 c1 t.targets) (ha:Slc 4 ROp w A2 c2 t.args) (hp:Slc 2 RPj w A3 c3 t.place.proj)
 (ho:OkTm b.locals t) (hf:FitTm t) (hz:bs.length+(termP b.locals t).length+200<=140737488355328) (hl:t.args.length<=1000000):
 Calls Tryz.prog 37 #[.pointer (some ⟨g,0,none⟩),.agg #[.int .i64 t.kind,.slice A1 t.targets.length c1,.slice A2 t.args.length c2,.int .i64 t.place.loc,.slice A3 t.place.proj.length c3,.string t.name]] w fun e' w'=>e' = .returned (.tuple #[])/\Lives w0 B g b bh (bs ++ ([32,32,32,32] ++ termP b.locals t ++ semP)) 2 w'/\Fr g w w':=by
 obtain ⟨iS,iS0,iS1,iS2,iS3⟩:=info_parts pO;have HB0:=aF (fun (o:Obj)=>(aX w.heap.size w).alloc (aY _) o);have HH:=aF H;have HO:=aF ho;have HF:=aF hf;have HZ:=aF hz;have HT:=aF ht;have HA:=aF ha;have HP:=aF hp;have hk:=ho.kind;have hle:=ht.le;have hbig:=ht.big
 have htl:t.targets.length<=2:=by
  rcases kind_six hk with h | h | h | h | h | h
  ·have:=ho.one (.inl h);omega
  ·have:=(ho.two h).1;omega
  ·rw [ho.none (.inl h)];simp
  ·have:=ho.one (.inr (.inl h));omega
  ·have:=ho.one (.inr (.inr h));omega
  ·rw [ho.none (.inr h)];simp
 have HI:=aF (fun (x:Int) (hx:x∈t.targets) (W:World) (hb:Below w.heap.size w W)=>index_any' [94] x (hf.tg x hx).1 (hf.tg x hx).2 (by simp) W ((H.keep hb).ctx.pow));obtain ⟨nm,hnm⟩:∃nm:List UInt8,bl t.name=nm:=⟨_,rfl⟩;have hnv:t.name=⟨nm.toArray⟩:=by rw [<- hnm]
 have HNM:=aF hnm;have hne:g≠w.heap.size:=by have:=H.st.lt;have:=H.st.le;omega
 have HL:Hid (∀W,Below w.heap.size w W->∀(xs:List (List UInt8)) (y:List UInt8) (bk:Nat),RowT W bk xs->Lib.join xs [32]=y ++ [59]->y=termP b.locals t->xs.length<=10->Calls Tryz.prog 28 #[.pointer (some ⟨g,0,none⟩),.slice (some ⟨bk,0,none⟩) xs.length xs.length] W fun e' w'=>e' = .returned (.tuple #[])/\Lives w0 B g b bh (bs ++ ([32,32,32,32] ++ termP b.locals t ++ semP)) 2 w'/\Fr g W w'):=aF (fun W hb xs y bk hr hj hy hn=>by
  have h:=eB (H.keep hb) xs y bk hr hj (by decide) hn (by rw [hy];omega)
  rw [show bs ++ ([32,32,32,32] ++ termP b.locals t ++ semP)=bs ++ (ind 2 ++ (y ++ [59,10])) by
   rw [hy,show ind 2=[32,32,32,32] from rfl,semP];simp]
  exact h)
 have HPL:Hid (∀W,Below w.heap.size w W->(t.kind=3\/t.kind=4)->Sm (placeP b.locals t.place)->Calls Tryz.prog 48 #[.pointer (some ⟨g,0,none⟩),.agg #[.int .i64 t.place.loc,.slice A3 t.place.proj.length c3]] W fun e' w'=>e' = .returned (tx (placeP b.locals t.place))/\Below W.heap.size W w'):=aF (fun W hb h34 hzz=>by
  have C:=(H.keep hb).ctx
  exact fD b.locals g bh.A4 bh.c4 t.place A3 c3 W C.locs C.at_.loc (hp.keep RPj.keeps hb) (ho.place h34).loc hf.pj hzz C.pow)
 have HOP:Hid (∀W,Below w.heap.size w W->Sm (opsP b.locals t.args)->Calls Tryz.prog 81 #[.pointer (some ⟨g,0,none⟩),.slice A2 t.args.length c2] W fun e' w'=>e' = .returned (tx (opsP b.locals t.args))/\Below W.heap.size W w'):=aF (fun W hb hzz=>
  sB (H.keep hb).ctx t.args A2 c2 (ha.keep ROp.keeps hb) ho.args hf.args hzz hl)
 clear H ho hf hz ht ha hp hnm;obtain ⟨k,tg,ar,⟨l0,ps⟩,name⟩:=t;simp only at hnv;subst hnv;simp only at hk hle htl HI HPL HOP HL hl HT HNM ⊢;go_enter Tryz.func37,Tryz.ntmps37
 go_wp2_with fail
 go_loopw [4,6,10] (fun v q i wr=>∃(j:Nat) (acc:List (List UInt8)),j<=tg.length/\i = .int .i64 j/\q=q/\acc.length=j/\Hid (acc=(tg.take j).map (idxP 94))/\Hid (wr.ownsRow (w.heap.size+1) 9 1 v j (acc.map tx))/\Hid (Below w.heap.size w wr)/\Hid (wr.heap[w.heap.size]?=some (.cells #[.int .i64 k,.slice A1 tg.length c1,.slice A2 ar.length c2,.int .i64 l0,.slice A3 ps.length c3,.string ⟨nm.toArray⟩] 61 (0,0)))) (fun _ _ i _=>tg.length - (intOf i).toNat)
 case atStart=>exact ⟨0,[],by omega,rfl,rfl,rfl,aF rfl,aF (World.ownsRow_nil _ _ _ _),aF aH,aF (heap_alloc_new w _)⟩
 case round=>
  obtain ⟨j,acc,hj,rfl,_,hal,HAC,HOW,HB,HTM⟩:=hrel;have hsz:=HB.out.size;have hlt0:w.heap.size<wr.heap.size:=(Array.getElem?_eq_some_iff.1 HTM.out).1;by_cases hlt:j<tg.length
  case pos=>
   obtain ⟨bb,oo,rfl,hbb,y⟩:=(HT.out.keep RInt.keeps HB.out).sl.at_ hlt;have HX0:=aF (HI.out tg[j] (bN hlt));have HA2:Hid (acc ++ [idxP 94 tg[j]]=(tg.take (j+1)).map (idxP 94)):=aF (by rw [HAC.out,bF hlt,bU];rfl);have x0:wr.cell? ⟨bb,oo+j,none⟩=some (.int .i64 tg[j]):=by simpa [RInt] using y
   generalize tg[j]=x at *;obtain ⟨fx,hfx⟩:∃fx,idxP 94 x=fx:=⟨_,rfl⟩;have hfx':[94] ++ Lib.itoa x=fx:=hfx;rw [hfx] at HA2;rw [hfx'] at HX0;clear y hfx hfx'
   go_wp2_with (first
    | (go_at_call 34;refine (HX0.out _ HB.out).mono ?_;rintro e' w1 ⟨rfl,hb1⟩;have HB1:=aF (HB.out.trans (hb1.mono HB.out.size));have hsz1:=HB1.out.size;have hlt1:w.heap.size<w1.heap.size:=bO hlt0 hb1.size;have HO1:=aF (dG HOW.out hb1);have HT1:=aF (cP HTM.out hb1);clear hb1)
    | (at_builtin;refine wpList_append_own _ rfl _ _ 22 rfl (w.heap.size+1) 9 iS (.string { data:= #[] }) 1 16 Tryz.underlying22 iS0 iS1 iS2 iS3 rfl (by decide) _ _ _ rfl (HO1.out.alloc (.cells #[tx fx] 9)) ⟨w1.heap.size,0,none⟩ 1 1 [tx fx] rfl rfl (pZ _ _) (pY _) (by unfold maxLen;omega) (by omega) (by simp;omega) ?_))
   intro v' w2 hown' hgrow _;have HO2:Hid (w2.ownsRow (w.heap.size+1) 9 1 v' (j+1) ((acc ++ [fx]).map tx)):=aF (by rw [bU];exact hown');have HBX:=(aX (w.heap.size+1) (w1.alloc (.cells #[tx fx] 9))).grown hgrow (by simp;omega) (fun g hg=>((HO1.out.alloc (.cells #[tx fx] 9)).lt g hg).1);have HT2:=aF ((HBX.block w.heap.size (by omega)).trans (cP HT1.out ((aX w1.heap.size w1).alloc (aY _) (.cells #[tx fx] 9))));have HB2:Hid (Below w.heap.size w w2):=aF ((HB1.out.alloc hsz1 (.cells #[tx fx] 9)).trans (HBX.mono (by omega)));clear hown' hgrow HBX;go_wp2_with fail
   go_roundw
   case rel=>exact ⟨j+1,acc ++ [fx],by omega,by go_num,trivial,by simp [hal],HA2,HO2,HB2,HT2⟩
   case measure=>simp [intOf];omega
  case neg=>
   have hjl:j=tg.length:=by omega
   have HAF:Hid (acc=tg.map (idxP 94)):=aF (by rw [HAC.out,hjl,cA]);have hTC:=cQ (l:=[.int .i64 k,.slice A1 tg.length c1,.slice A2 ar.length c2,.int .i64 l0,.slice A3 ps.length c3,.string ⟨nm.toArray⟩]) HTM.out;have s0:=hTC 0 _ rfl;clear HAC HI HT hle hbig hTC hlt hjl htl hj;rcases kind_six hk with hk0 | hk0 | hk0 | hk0 | hk0 | hk0
   ·subst hk0;obtain ⟨a,rfl⟩:=xF (HO.out.one (.inl rfl));obtain ⟨ta,hta⟩:∃ta,idxP 94 a=ta:=⟨_,rfl⟩;have hae:acc=[ta]:=by rw [HAF.out,<- hta];rfl
    subst hae;obtain rfl:j=1:=hal.symm;obtain ⟨q,cap,cur,rfl,hq,hcap,hQ,hcur⟩:=jG HOW.out rfl (by simp);have hc0:=hcur 0 _ rfl;have q0:=kD hQ hc0;have HQ:=aF hQ;have HC0:=aF hc0;have hcap1:1<=cap:=hcap;clear hcur hQ hc0 hcap;have hqg:g≠q:=by have:=HH.out.st.lt;have:=HH.out.st.le;omega
    have HE:Hid (termP b.locals ⟨0,[a],ar,⟨l0,ps⟩,⟨nm.toArray⟩⟩=[103,111,116,111,32] ++ ta):=aF (by rw [<- hta];rfl);have hzl:=HZ.out;rw [HE.out] at hzl;simp only [bB,bK,bP] at hzl;have hz1:¬(9223372036854775807<ta.length+1):=(by omega);have ea:=ba_l ta #[59];have HB3:=aF (HB.out.alloc HB.out.size (.cells #[tx [103,111,116,111],tx (ta ++ [59])] 9));have HR0:=aF (dV wr [[103,111,116,111],ta ++ [59]]);have HLL:=aF (HL.out _ HB3.out [[103,111,116,111],ta ++ [59]] ([103,111,116,111,32] ++ ta) _ HR0.out (by rw [join2];simp) HE.out.symm (by simp));clear hzl hta HE HR0 HL HOP HPL;go_wp2_with (go_at_call 28;refine HLL.out.mono ?_;rintro e' w4 ⟨rfl,hl4,hf4⟩;have HL4:=aF hl4;have HF4:=aF ((Fr.of_below HB3.out).trans hf4);clear hl4 hf4)
    go_end0
    exact ⟨rfl,HL4.out,HF4.out⟩
   ·subst hk0;obtain ⟨a,a',rfl⟩:=xFT (HO.out.two rfl).1;obtain ⟨ta,hta⟩:∃ta,idxP 94 a=ta:=⟨_,rfl⟩;obtain ⟨tb,htb⟩:∃tb,idxP 94 a'=tb:=⟨_,rfl⟩;have hae:acc=[ta,tb]:=by rw [HAF.out,<- hta,<- htb];rfl
    subst hae;obtain rfl:j=2:=hal.symm;obtain ⟨q,cap,cur,rfl,hq,hcap,hQ,hcur⟩:=jG HOW.out rfl (by simp);have HC0:=aF (hcur 0 _ rfl);have HC1:=aF (hcur 1 _ rfl);have HQ:=aF hQ;have hcap1:2<=cap:=hcap;have hqg:g≠q:=by have:=HH.out.st.lt;have:=HH.out.st.le;omega
    clear hcur hQ hcap;obtain ⟨O1,hO1⟩:∃x,opsP b.locals ar=x:=⟨_,rfl⟩;have HE:Hid (termP b.locals ⟨1,[a,a'],ar,⟨l0,ps⟩,⟨nm.toArray⟩⟩=[105,102,32] ++ O1 ++ [32] ++ ta ++ [32,101,108,115,101,32] ++ tb):=aF (by rw [<- hta,<- htb,<- hO1];rfl);have hzl:=HZ.out;rw [HE.out] at hzl;simp only [bB,bK,bP] at hzl;have hz1:¬(9223372036854775807<tb.length+1):=(by omega);have HOO:=aF (fun W hb=>HOP.out W hb (by rw [hO1];show O1.length<=_;omega));rw [hO1] at HOO;clear hzl hta htb hO1 HOP HPL;go_wp2_with fail
    have hS:wr.drew.heap[w.heap.size]?=some (.cells ([Value.int .i64 1,.slice A1 [a,a'].length c1,.slice A2 ar.length c2,.int .i64 l0,.slice A3 ps.length c3,.string ⟨nm.toArray⟩]).toArray 61 (0,0))/\wr.drew.heap[q]?=some (.cells cur 9 (0,0)):=⟨HTM.out,HQ.out⟩;have HBD:=aF HB.out.drew;refine cR (S:=fun X=>X.heap[w.heap.size]?=some (.cells ([Value.int .i64 1,.slice A1 [a,a'].length c1,.slice A2 ar.length c2,.int .i64 l0,.slice A3 ps.length c3,.string ⟨nm.toArray⟩]).toArray 61 (0,0))/\X.heap[q]?=some (.cells cur 9 (0,0))) [0,1,2,3,5,6,7,8,9,10,11,4,12,13] (by kernel_rfl) ?_;(iterate 10 (refine cS (v:=?_) ?_ hS ?_;rotate_left;(next=>(rintro X ⟨hX,hQ⟩;have hY:=cQ hX;obtain ⟨-,-,s2,s3,s4,s5⟩:=aR hY;have q0:=kD hQ HC0.out;have q1:=kD hQ HC1.out;(try simp only [aI]);go_simp;rfl));simp only [aM]));refine cU (v:=tx (tb ++ [59])) (by kernel_rfl) (fun _ _ _ h=>h) (Or.inl ⟨by rfl,?_⟩) hS ?_
    ·rintro X hX;(try simp only [aI]);go_simp;exact ba_l tb #[59]
    (simp only [aM]);(refine cV (fun K1 hK1=>?_);simp only [aM];rw [bA (by rfl)];go_simp);refine (HOO.out _ HBD.out).mono ?_;rintro e' w1 ⟨rfl,hb1⟩;replace hS:=bJ (cP hS.1 hb1) (cP hS.2 hb1);have HB1:=aF (HBD.out.trans (hb1.mono HBD.out.size));clear hb1;refine hK1.out _ _ (fun _=>hS) ?_;(refine cV (fun K1 hK1=>?_);simp only [aM];rw [bA (by rfl)];go_simp);have HB9:=aF (HB1.out.alloc HB1.out.size (.cells #[tx [105,102],tx O1,tx ta,tx [101,108,115,101],tx (tb ++ [59])] 9));replace hS:=bJ (cP hS.1 ((aX w1.heap.size w1).alloc (aY _) (.cells #[tx [105,102],tx O1,tx ta,tx [101,108,115,101],tx (tb ++ [59])] 9))) (cP hS.2 ((aX w1.heap.size w1).alloc (aY _) (.cells #[tx [105,102],tx O1,tx ta,tx [101,108,115,101],tx (tb ++ [59])] 9)));refine hK1.out _ _ (fun _=>hS) ?_;(refine cV (fun K1 hK1=>?_);simp only [aM];rw [bA (by rfl)];go_simp);refine (HL.out _ HB9.out [[105,102],O1,ta,[101,108,115,101],tb ++ [59]] ([105,102,32] ++ O1 ++ [32] ++ ta ++ [32,101,108,115,101,32] ++ tb) _ (dV w1 [[105,102],O1,ta,[101,108,115,101],tb ++ [59]]) (by rw [join5];simp) HE.out.symm (by simp)).mono ?_;rintro e' w9 ⟨rfl,hl4,hf4⟩;replace hS:=bJ (heap_fr hS.1 hf4 hne (by decide)) (heap_fr hS.2 hf4 hqg (by decide));have HL4:=aF hl4;have HF4:=aF ((Fr.of_below HB9.out).trans hf4);clear hl4 hf4;refine hK1.out _ _ (fun _=>hS) ?_;refine dA ?_;go_wp2_with fail
    go_end0
    exact ⟨rfl,HL4.out,HF4.out⟩
   ·subst hk0;obtain rfl:=HO.out.none (.inl rfl);have hae:acc=[]:=by rw [HAF.out];rfl
    subst hae;obtain rfl:j=0:=hal.symm;have HE:Hid (termP b.locals ⟨2,[],ar,⟨l0,ps⟩,⟨nm.toArray⟩⟩=[114,101,116,117,114,110]):=aF rfl;have HB3:=aF (HB.out.alloc HB.out.size (.cells #[tx [114,101,116,117,114,110,59]] 9));have HR0:=aF (dV wr [[114,101,116,117,114,110,59]]);have HLL:=aF (HL.out _ HB3.out [[114,101,116,117,114,110,59]] [114,101,116,117,114,110] _ HR0.out (by rw [join1];rfl) HE.out.symm (by simp));clear HE HR0 HL HOP HPL;go_wp2_with (go_at_call 28;refine HLL.out.mono ?_;rintro e' w4 ⟨rfl,hl4,hf4⟩;have HL4:=aF hl4;have HF4:=aF ((Fr.of_below HB3.out).trans hf4);clear hl4 hf4)
    go_end0
    exact ⟨rfl,HL4.out,HF4.out⟩
   ·subst hk0;obtain ⟨a,rfl⟩:=xF (HO.out.one (.inr (.inl rfl)));obtain ⟨ta,hta⟩:∃ta,idxP 94 a=ta:=⟨_,rfl⟩;have hae:acc=[ta]:=by rw [HAF.out,<- hta];rfl
    subst hae;obtain rfl:j=1:=hal.symm;obtain ⟨q,cap,cur,rfl,hq,hcap,hQ,hcur⟩:=jG HOW.out rfl (by simp);have hc0:=hcur 0 _ rfl;have q0:=kD hQ hc0;have HQ:=aF hQ;have HC0:=aF hc0;have hcap1:1<=cap:=hcap;clear hcur hQ hc0 hcap;have hqg:g≠q:=by have:=HH.out.st.lt;have:=HH.out.st.le;omega
    obtain ⟨P1,hP1⟩:∃x,placeP b.locals ⟨l0,ps⟩=x:=⟨_,rfl⟩;obtain ⟨O1,hO1⟩:∃x,opsP b.locals ar=x:=⟨_,rfl⟩;have HE:Hid (termP b.locals ⟨3,[a],ar,⟨l0,ps⟩,⟨nm.toArray⟩⟩=P1 ++ [32,61,32,99,97,108,108,32,64] ++ nm ++ [40] ++ O1 ++ [41,32] ++ ta):=aF (by rw [<- hta,<- hP1,<- hO1];rfl);have hzl:=HZ.out;rw [HE.out] at hzl;simp only [bB,bK,bP] at hzl;have hz1:¬(9223372036854775807<ta.length+1):=(by omega);have hz2:¬(9223372036854775807<1+nm.length):=(by omega);have hz3:¬(9223372036854775807<nm.length+1+1):=(by omega);have hz4:¬(9223372036854775807<nm.length+1+1+O1.length):=(by omega);have hz5:¬(9223372036854775807<nm.length+(O1.length+1)+1+1):=(by omega);have HPP:=aF (fun W hb=>HPL.out W hb (.inl rfl) (by rw [hP1];show P1.length<=_;omega));have HOO:=aF (fun W hb=>HOP.out W hb (by rw [hO1];show O1.length<=_;omega));rw [hP1] at HPP;rw [hO1] at HOO;clear hzl hta hP1 hO1 HOP HPL;go_wp2_with fail
    have hS:wr.drew.heap[w.heap.size]?=some (.cells ([Value.int .i64 3,.slice A1 [a].length c1,.slice A2 ar.length c2,.int .i64 l0,.slice A3 ps.length c3,.string ⟨nm.toArray⟩]).toArray 61 (0,0))/\wr.drew.heap[q]?=some (.cells cur 9 (0,0)):=⟨HTM.out,HQ.out⟩;have HBD:=aF HB.out.drew;refine cR (S:=fun X=>X.heap[w.heap.size]?=some (.cells ([Value.int .i64 3,.slice A1 [a].length c1,.slice A2 ar.length c2,.int .i64 l0,.slice A3 ps.length c3,.string ⟨nm.toArray⟩]).toArray 61 (0,0))/\X.heap[q]?=some (.cells cur 9 (0,0))) [0,1,2,3,5,6,7,8,9,10,11,15,16,17,18,4,12,13,14,19,20] (by kernel_rfl) ?_;(iterate 6 (refine cS (v:=?_) ?_ hS ?_;rotate_left;(next=>(rintro X ⟨hX,hQ⟩;have hY:=cQ hX;obtain ⟨-,-,s2,s3,s4,s5⟩:=aR hY;have q0:=kD hQ HC0.out;(try simp only [aI]);go_simp;rfl));simp only [aM]));refine cU (v:=tx (64 :: nm)) (by kernel_rfl) (fun _ _ _ h=>h) (Or.inl ⟨by rfl,?_⟩) hS ?_
    ·rintro X hX;(try simp only [aI]);go_simp;exact (ba_app' _ _).trans (by simp [bl])
    (simp only [aM]);refine cU (v:=tx (64 :: (nm ++ [40]))) (by kernel_rfl) (fun _ _ _ h=>h) (Or.inl ⟨by rfl,?_⟩) hS ?_
    ·rintro X hX;(try simp only [aI]);go_simp;exact (ba_app' _ _).trans (by simp [bl])
    (simp only [aM]);(iterate 6 (refine cS (v:=?_) ?_ hS ?_;rotate_left;(next=>(rintro X ⟨hX,hQ⟩;have hY:=cQ hX;obtain ⟨-,-,s2,s3,s4,s5⟩:=aR hY;have q0:=kD hQ HC0.out;(try simp only [aI]);go_simp;rfl));simp only [aM]));refine cU (v:=tx (ta ++ [59])) (by kernel_rfl) (fun _ _ _ h=>h) (Or.inl ⟨by rfl,?_⟩) hS ?_
    ·rintro X hX;(try simp only [aI]);go_simp;exact ba_l ta #[59]
    (simp only [aM]);(refine cV (fun K1 hK1=>?_);simp only [aM];rw [bA (by rfl)];go_simp);refine (HPP.out _ HBD.out).mono ?_;rintro e' w1 ⟨rfl,hb1⟩;replace hS:=bJ (cP hS.1 hb1) (cP hS.2 hb1);have HB1:=aF (HBD.out.trans (hb1.mono HBD.out.size));clear hb1;refine hK1.out _ _ (fun _=>hS) ?_;(refine cV (fun K1 hK1=>?_);simp only [aM];rw [bA (by rfl)];go_simp);refine (HOO.out _ HB1.out).mono ?_;rintro e' w2 ⟨rfl,hb2⟩;replace hS:=bJ (cP hS.1 hb2) (cP hS.2 hb2);have HB2:=aF (HB1.out.trans (hb2.mono HB1.out.size));clear hb2;refine hK1.out _ _ (fun _=>hS) ?_;refine cU (v:=tx (64 :: (nm ++ 40 :: O1))) (by kernel_rfl) (fun _ _ _ h=>h) (Or.inl ⟨by rfl,?_⟩) hS ?_
    ·rintro X hX;(try simp only [aI]);go_simp;exact (ba_app' _ _).trans (by simp [bl])
    (simp only [aM]);refine cU (v:=tx (64 :: (nm ++ 40 :: (O1 ++ [41])))) (by kernel_rfl) (fun _ _ _ h=>h) (Or.inl ⟨by rfl,?_⟩) hS ?_
    ·rintro X hX;(try simp only [aI]);go_simp;exact (ba_app' _ _).trans (by simp [bl])
    (simp only [aM]);(refine cV (fun K1 hK1=>?_);simp only [aM];rw [bA (by rfl)];go_simp);have HB9:=aF (HB2.out.alloc HB2.out.size (.cells #[tx P1,tx [61,32,99,97,108,108],tx (64 :: (nm ++ 40 :: (O1 ++ [41]))),tx (ta ++ [59])] 9));replace hS:=bJ (cP hS.1 ((aX w2.heap.size w2).alloc (aY _) (.cells #[tx P1,tx [61,32,99,97,108,108],tx (64 :: (nm ++ 40 :: (O1 ++ [41]))),tx (ta ++ [59])] 9))) (cP hS.2 ((aX w2.heap.size w2).alloc (aY _) (.cells #[tx P1,tx [61,32,99,97,108,108],tx (64 :: (nm ++ 40 :: (O1 ++ [41]))),tx (ta ++ [59])] 9)));refine hK1.out _ _ (fun _=>hS) ?_;(refine cV (fun K1 hK1=>?_);simp only [aM];rw [bA (by rfl)];go_simp);refine (HL.out _ HB9.out [P1,[61,32,99,97,108,108],64 :: (nm ++ 40 :: (O1 ++ [41])),ta ++ [59]] (P1 ++ [32,61,32,99,97,108,108,32,64] ++ nm ++ [40] ++ O1 ++ [41,32] ++ ta) _ (dV w2 [P1,[61,32,99,97,108,108],64 :: (nm ++ 40 :: (O1 ++ [41])),ta ++ [59]]) (by rw [join4];simp) HE.out.symm (by simp)).mono ?_;rintro e' w9 ⟨rfl,hl4,hf4⟩;replace hS:=bJ (heap_fr hS.1 hf4 hne (by decide)) (heap_fr hS.2 hf4 hqg (by decide));have HL4:=aF hl4;have HF4:=aF ((Fr.of_below HB9.out).trans hf4);clear hl4 hf4;refine hK1.out _ _ (fun _=>hS) ?_;refine dA ?_;go_wp2_with fail
    go_end0
    exact ⟨rfl,HL4.out,HF4.out⟩
   ·subst hk0;obtain ⟨a,rfl⟩:=xF (HO.out.one (.inr (.inr rfl)));obtain ⟨ta,hta⟩:∃ta,idxP 94 a=ta:=⟨_,rfl⟩;have hae:acc=[ta]:=by rw [HAF.out,<- hta];rfl
    subst hae;obtain rfl:j=1:=hal.symm;obtain ⟨q,cap,cur,rfl,hq,hcap,hQ,hcur⟩:=jG HOW.out rfl (by simp);have hc0:=hcur 0 _ rfl;have q0:=kD hQ hc0;have HQ:=aF hQ;have HC0:=aF hc0;have hcap1:1<=cap:=hcap;clear hcur hQ hc0 hcap;have hqg:g≠q:=by have:=HH.out.st.lt;have:=HH.out.st.le;omega
    obtain ⟨P1,hP1⟩:∃x,placeP b.locals ⟨l0,ps⟩=x:=⟨_,rfl⟩;have HE:Hid (termP b.locals ⟨4,[a],ar,⟨l0,ps⟩,⟨nm.toArray⟩⟩=[100,114,111,112,32] ++ P1 ++ [32] ++ ta):=aF (by rw [<- hta,<- hP1];rfl);have hzl:=HZ.out;rw [HE.out] at hzl;simp only [bB,bK,bP] at hzl;have hz1:¬(9223372036854775807<ta.length+1):=(by omega);have HPP:=aF (fun W hb=>HPL.out W hb (.inr rfl) (by rw [hP1];show P1.length<=_;omega));rw [hP1] at HPP;clear hzl hta hP1 HOP HPL;go_wp2_with fail
    have hS:wr.drew.heap[w.heap.size]?=some (.cells ([Value.int .i64 4,.slice A1 [a].length c1,.slice A2 ar.length c2,.int .i64 l0,.slice A3 ps.length c3,.string ⟨nm.toArray⟩]).toArray 61 (0,0))/\wr.drew.heap[q]?=some (.cells cur 9 (0,0)):=⟨HTM.out,HQ.out⟩;have HBD:=aF HB.out.drew;refine cR (S:=fun X=>X.heap[w.heap.size]?=some (.cells ([Value.int .i64 4,.slice A1 [a].length c1,.slice A2 ar.length c2,.int .i64 l0,.slice A3 ps.length c3,.string ⟨nm.toArray⟩]).toArray 61 (0,0))/\X.heap[q]?=some (.cells cur 9 (0,0))) [0,1,2,3,5,6,7,8,4,9,10] (by kernel_rfl) ?_;(iterate 7 (refine cS (v:=?_) ?_ hS ?_;rotate_left;(next=>(rintro X ⟨hX,hQ⟩;have hY:=cQ hX;obtain ⟨-,-,s2,s3,s4,s5⟩:=aR hY;have q0:=kD hQ HC0.out;(try simp only [aI]);go_simp;rfl));simp only [aM]));refine cU (v:=tx (ta ++ [59])) (by kernel_rfl) (fun _ _ _ h=>h) (Or.inl ⟨by rfl,?_⟩) hS ?_
    ·rintro X hX;(try simp only [aI]);go_simp;exact ba_l ta #[59]
    (simp only [aM]);(refine cV (fun K1 hK1=>?_);simp only [aM];rw [bA (by rfl)];go_simp);refine (HPP.out _ HBD.out).mono ?_;rintro e' w1 ⟨rfl,hb1⟩;replace hS:=bJ (cP hS.1 hb1) (cP hS.2 hb1);have HB1:=aF (HBD.out.trans (hb1.mono HBD.out.size));clear hb1;refine hK1.out _ _ (fun _=>hS) ?_;(refine cV (fun K1 hK1=>?_);simp only [aM];rw [bA (by rfl)];go_simp);have HB9:=aF (HB1.out.alloc HB1.out.size (.cells #[tx [100,114,111,112],tx P1,tx (ta ++ [59])] 9));replace hS:=bJ (cP hS.1 ((aX w1.heap.size w1).alloc (aY _) (.cells #[tx [100,114,111,112],tx P1,tx (ta ++ [59])] 9))) (cP hS.2 ((aX w1.heap.size w1).alloc (aY _) (.cells #[tx [100,114,111,112],tx P1,tx (ta ++ [59])] 9)));refine hK1.out _ _ (fun _=>hS) ?_;(refine cV (fun K1 hK1=>?_);simp only [aM];rw [bA (by rfl)];go_simp);refine (HL.out _ HB9.out [[100,114,111,112],P1,ta ++ [59]] ([100,114,111,112,32] ++ P1 ++ [32] ++ ta) _ (dV w1 [[100,114,111,112],P1,ta ++ [59]]) (by rw [join3];simp) HE.out.symm (by simp)).mono ?_;rintro e' w9 ⟨rfl,hl4,hf4⟩;replace hS:=bJ (heap_fr hS.1 hf4 hne (by decide)) (heap_fr hS.2 hf4 hqg (by decide));have HL4:=aF hl4;have HF4:=aF ((Fr.of_below HB9.out).trans hf4);clear hl4 hf4;refine hK1.out _ _ (fun _=>hS) ?_;refine dA ?_;go_wp2_with fail
    go_end0
    exact ⟨rfl,HL4.out,HF4.out⟩
   ·subst hk0;obtain rfl:=HO.out.none (.inr rfl);have hae:acc=[]:=by rw [HAF.out];rfl
    subst hae;obtain rfl:j=0:=hal.symm;have HE:Hid (termP b.locals ⟨5,[],ar,⟨l0,ps⟩,⟨nm.toArray⟩⟩=[117,110,114,101,97,99,104,97,98,108,101]):=aF rfl;have HB3:=aF (HB.out.alloc HB.out.size (.cells #[tx [117,110,114,101,97,99,104,97,98,108,101,59]] 9));have HR0:=aF (dV wr [[117,110,114,101,97,99,104,97,98,108,101,59]]);have HLL:=aF (HL.out _ HB3.out [[117,110,114,101,97,99,104,97,98,108,101,59]] [117,110,114,101,97,99,104,97,98,108,101] _ HR0.out (by rw [join1];rfl) HE.out.symm (by simp));clear HE HR0 HL HOP HPL;go_wp2_with (go_at_call 28;refine HLL.out.mono ?_;rintro e' w4 ⟨rfl,hl4,hf4⟩;have HL4:=aF hl4;have HF4:=aF ((Fr.of_below HB3.out).trans hf4);clear hl4 hf4)
    go_end0
    exact ⟨rfl,HL4.out,HF4.out⟩
theorem mU (l:List Opd) (B:Option Addr) (d:Nat) (w:World) (hs:Slc 4 ROp w B d l):
 Calls Tryz.prog 64 #[.slice B l.length d] w fun e' w'=>(∃q:Int,e' = .returned (.int .i64 q)/\0<=q/\q<=20000)/\Below w.heap.size w w':=by
 have hle:=hs.le;have hbg:=hs.big;obtain ⟨n0,hn0⟩:∃n:Nat,min l.length 9000=n:=⟨_,rfl⟩;have hn1:n0<=l.length:=by omega
 have hn2:n0<=9000:=by omega
 have HS:=aF (hs.takeN n0);have hlen:(l.take n0).length=n0:=by simp;omega
 have hmin:min (l.length:Int) 9000=(n0:Int):=by omega
 have hcut:∀W,(Instr.slice 59 (.slice B l.length d) none (some (.int .i64 (n0:Int))) none).run Tryz.prog W = .ok (.slice B n0 d) W:=fun W=>by
  have:=nJ (P:=Tryz.prog) 59 160 B l.length d n0 4 Tryz.underlying59 Tryz.sizeOf160 hn1 hle W;rwa [show cutA B d 0 4=B by cases B <;> simp [cutA,Addr.add]] at this
 generalize l.take n0=l' at HS hlen;generalize l.length=L at hcut hmin ⊢;clear hs;go_enter Tryz.func64,Tryz.ntmps64
 go_wp2_with fail
 clear hmin hcut;go_loopw [3,13] (fun v i wr=>∃(k:Nat) (m:Int),k<=n0/\i = .int .i64 k/\v = .int .i64 m/\0<=m/\m<=9000/\Hid (Below w.heap.size w wr)) (fun _ i _=>n0 - (intOf i).toNat)
 case atStart=>exact ⟨0,_,by omega,rfl,rfl,by omega,by omega,aF (aX _ _)⟩
 case round=>
  obtain ⟨k,m,hk,rfl,rfl,hm0,hm1,HB⟩:=hrel;by_cases hlt:k<n0
  ·have hlt2:k<l'.length:=by omega
   obtain ⟨b5,o5,rfl,hb5,hx⟩:=HS.out.sl.at_ hlt2;generalize l'[k]=o at hx;obtain ⟨p0,⟨p1,A2,c2,p2,hc1,hc2,hsl⟩,p3⟩:=ROp.keeps _ _ _ w.heap.size _ _ _ (aY _) hb5 HB.out hx;have p2':wr.cell? ⟨b5,o5+k * 4+2,none⟩=some (.slice A2 o.place.proj.length c2):=p2;have hsz:=HB.out.size;clear hx hsl p2;go_wp2_with fail
   all_goals first
    | (go_ret;exact ⟨⟨_,rfl,by omega,by omega⟩,HB.out.alloc hsz _⟩)
    | (go_roundw
       case rel=>exact ⟨k+1,_,by omega,by go_num,rfl,by omega,by omega,aF (HB.out.alloc hsz _)⟩
       case measure=>simp [intOf];omega)
  ·go_wp2_with fail
   go_ret;exact ⟨⟨_,rfl,by omega,by omega⟩,HB.out⟩
theorem xQ (f:ByteArray->List UInt8) (xs:List ByteArray) (A:Option Addr) (c:Nat) (w:World) (H:Slc 1 RN w A c xs) (hz:Sm (comP (xs.map f))) (hl:xs.length<=1000000)
 (hF:∀x∈xs,∀W,Below w.heap.size w W->Calls Tryz.prog 30 #[.string x] W fun e' w'=>e' = .returned (tx (f x))/\Below W.heap.size W w'):
 Calls Tryz.prog 29 #[.slice A xs.length c,.func (.func 30) #[] #[]] w fun e' w'=>e' = .returned (tx (comP (xs.map f)))/\Below w.heap.size w w':=by
 obtain ⟨iS,iS0,iS1,iS2,iS3⟩:=info_parts pO;have hle:=H.le;have hbig:=H.big;have HS:=aF H;have HF:=aF hF;have HZ:=aF hz;clear H hF hz;go_enter Tryz.func29,Tryz.ntmps29
 go_wp2_with fail
 go_loopw [5,7,10] (fun v q i wr=>∃(k:Nat) (acc:List (List UInt8)),k<=xs.length/\i = .int .i64 k/\q=q/\acc.length=k/\Hid (acc=(xs.take k).map f)/\Hid (wr.ownsRow w.heap.size 9 1 v k (acc.map tx))/\Hid (Below w.heap.size w wr)) (fun _ _ i _=>xs.length - (intOf i).toNat)
 case atStart=>exact ⟨0,[],by omega,rfl,rfl,rfl,aF rfl,aF (World.ownsRow_nil _ _ _ _),aF (aX _ _)⟩
 case round=>
  obtain ⟨k,acc,hk,rfl,_,hal,HA,HO,HB⟩:=hrel;have hsz:=HB.out.size;by_cases hlt:k<xs.length
  ·obtain ⟨b,o,rfl,hb,y⟩:=(HS.out.keep RN.keeps HB.out).sl.at_ hlt;have HX0:=aF (HF.out xs[k] (bN hlt));have HA2:Hid (acc ++ [f xs[k]]=(xs.take (k+1)).map f):=aF (by rw [HA.out,bF hlt,bU];rfl);have x0:wr.cell? ⟨b,o+k,none⟩=some (.string xs[k]):=by simpa [RN] using y
   generalize xs[k]=x at *;obtain ⟨fx,hfx⟩:∃fx,f x=fx:=⟨_,rfl⟩;rw [hfx] at HX0 HA2;have HBA:=HB;have hbs:=dB hb;clear y
   go_wp2_with (first
    | (go_at_call 30;refine (HX0.out _ HB.out).mono ?_;rintro e' w1 ⟨rfl,hb1⟩;have HB1:=aF (HBA.out.trans (hb1.mono HBA.out.size));have hsz1:=HB1.out.size;have HO1:=aF (dG HO.out hb1);clear hb1)
    | (at_builtin;refine wpList_append_own _ rfl _ _ 22 rfl w.heap.size 9 iS (.string { data:= #[] }) 1 16 Tryz.underlying22 iS0 iS1 iS2 iS3 rfl (by decide) _ _ _ rfl (HO1.out.alloc (.cells #[tx fx] 9)) ⟨w1.heap.size,0,none⟩ 1 1 [tx fx] rfl rfl (pZ _ _) (pY _) (by unfold maxLen;omega) (by omega) (by simp;omega) ?_))
   intro v' w2 hown' hgrow _;have HO2:Hid (w2.ownsRow w.heap.size 9 1 v' (k+1) ((acc ++ [fx]).map tx)):=aF (by rw [bU];exact hown');have HB2:Hid (Below w.heap.size w w2):=aF ((HB1.out.alloc hsz1 _).grown hgrow (by simp;omega) (fun g hg=>((HO1.out.alloc (.cells #[tx fx] 9)).lt g hg).1));clear hown' hgrow;go_wp2_with fail
   go_roundw
   case rel=>exact ⟨k+1,acc ++ [fx],by omega,by go_num,trivial,by simp [hal],HA2,HO2,HB2⟩
   case measure=>simp [intOf];omega
  ·have hkl:k=xs.length:=by omega
   have HAF:Hid (acc=xs.map f):=aF (by rw [HA.out,hkl,cA]);have HJ:=aF (kJ HO.out hal.symm (by rw [HAF.out];exact HZ.out) (by omega));clear HA;go_wp2_with (go_at_call 73;refine HJ.out.mono ?_;rintro e' w1 ⟨rfl,hb1⟩)
   go_ret;exact ⟨by rw [HAF.out];rfl,HB.out.trans (hb1.mono HB.out.size)⟩
theorem xR (q:Nat) (f:(Int × Int)->List UInt8) (xs:List (Int × Int)) (A:Option Addr) (c:Nat) (w:World) (H:Slc 2 RPr w A c xs) (hz:Sm (comP (xs.map f))) (hl:xs.length<=1000000)
 (hF:∀x∈xs,∀W,Below w.heap.size w W->Calls Tryz.prog 32 #[.agg #[.int .i64 x.1,.int .i64 x.2],.pointer (some ⟨q,0,none⟩)] W fun e' w'=>e' = .returned (tx (f x))/\Below W.heap.size W w'):
 Calls Tryz.prog 31 #[.slice A xs.length c,.func (.func 32) #[] #[.pointer (some ⟨q,0,none⟩)]] w fun e' w'=>e' = .returned (tx (comP (xs.map f)))/\Below w.heap.size w w':=by
 obtain ⟨iS,iS0,iS1,iS2,iS3⟩:=info_parts pO;have hle:=H.le;have hbig:=H.big;have HS:=aF H;have HF:=aF hF;have HZ:=aF hz;clear H hF hz;go_enter Tryz.func31,Tryz.ntmps31
 go_wp2_with fail
 go_loopw [5,7,10] (fun v q i wr=>∃(k:Nat) (acc:List (List UInt8)),k<=xs.length/\i = .int .i64 k/\q=q/\acc.length=k/\Hid (acc=(xs.take k).map f)/\Hid (wr.ownsRow w.heap.size 9 1 v k (acc.map tx))/\Hid (Below w.heap.size w wr)) (fun _ _ i _=>xs.length - (intOf i).toNat)
 case atStart=>exact ⟨0,[],by omega,rfl,rfl,rfl,aF rfl,aF (World.ownsRow_nil _ _ _ _),aF (aX _ _)⟩
 case round=>
  obtain ⟨k,acc,hk,rfl,_,hal,HA,HO,HB⟩:=hrel;have hsz:=HB.out.size;by_cases hlt:k<xs.length
  ·obtain ⟨b,o,rfl,hb,y⟩:=(HS.out.keep RPr.keeps HB.out).sl.at_ hlt;have HX0:=aF (HF.out xs[k] (bN hlt));have HA2:Hid (acc ++ [f xs[k]]=(xs.take (k+1)).map f):=aF (by rw [HA.out,bF hlt,bU];rfl);obtain ⟨x0,x1⟩:=y;generalize xs[k]=x at *;obtain ⟨p1,p2⟩:=x;simp only at x0 x1 HX0;obtain ⟨fx,hfx⟩:∃fx,f (p1,p2)=fx:=⟨_,rfl⟩;rw [hfx] at HX0 HA2;have y:=hlt;have HBA:=aF (HB.out.alloc hsz (.cells #[.int .i64 p1,.int .i64 p2] 77));have HOA:=aF (HO.out.alloc (.cells #[.int .i64 p1,.int .i64 p2] 77));have hbs:=dB hb;clear y
   go_wp2_with (first
    | (go_at_call 32;refine (HX0.out _ HBA.out).mono ?_;rintro e' w1 ⟨rfl,hb1⟩;have HB1:=aF (HBA.out.trans (hb1.mono HBA.out.size));have hsz1:=HB1.out.size;have HO1:=aF (dG HOA.out hb1);clear hb1)
    | (at_builtin;refine wpList_append_own _ rfl _ _ 22 rfl w.heap.size 9 iS (.string { data:= #[] }) 1 16 Tryz.underlying22 iS0 iS1 iS2 iS3 rfl (by decide) _ _ _ rfl (HO1.out.alloc (.cells #[tx fx] 9)) ⟨w1.heap.size,0,none⟩ 1 1 [tx fx] rfl rfl (pZ _ _) (pY _) (by unfold maxLen;omega) (by omega) (by simp;omega) ?_))
   intro v' w2 hown' hgrow _;have HO2:Hid (w2.ownsRow w.heap.size 9 1 v' (k+1) ((acc ++ [fx]).map tx)):=aF (by rw [bU];exact hown');have HB2:Hid (Below w.heap.size w w2):=aF ((HB1.out.alloc hsz1 _).grown hgrow (by simp;omega) (fun g hg=>((HO1.out.alloc (.cells #[tx fx] 9)).lt g hg).1));clear hown' hgrow;go_wp2_with fail
   go_roundw
   case rel=>exact ⟨k+1,acc ++ [fx],by omega,by go_num,trivial,by simp [hal],HA2,HO2,HB2⟩
   case measure=>simp [intOf];omega
  ·have hkl:k=xs.length:=by omega
   have HAF:Hid (acc=xs.map f):=aF (by rw [HA.out,hkl,cA]);have HJ:=aF (kJ HO.out hal.symm (by rw [HAF.out];exact HZ.out) (by omega));clear HA;go_wp2_with (go_at_call 73;refine HJ.out.mono ?_;rintro e' w1 ⟨rfl,hb1⟩)
   go_ret;exact ⟨by rw [HAF.out];rfl,HB.out.trans (hb1.mono HB.out.size)⟩
theorem xCG (b:Bdy) (bh:BH) (w:World) (H:BdAt w b bh) (r:Int) (mu:Bool) (t:List UInt8) (hr:okI b.regions.length r) (hz:Sm (refP b.regions r mu t)):
 Calls Tryz.prog 83 #[.agg (bdC b bh).toArray,.int .i64 r,.bool mu,tx t] w fun e' w'=>e' = .returned (tx (refP b.regions r mu t))/\Below w.heap.size w w':=by
 have HB0:=aF (fun (o:Obj)=>(aX w.heap.size w).alloc (aY _) o);obtain ⟨k,rfl⟩:=bG hr.1;have hk:k<b.regions.length:=by have:=hr.2;omega
 obtain ⟨bb,oo,hA,hbb,hx⟩:=H.reg.sl.at_ hk;have hle:=H.reg.le;have hbig:=H.reg.big;obtain ⟨A1,c1,A2,c2,A3,c3,A4,c4,A5,c5⟩:=bh;simp only at hA hle hbig;subst hA;obtain ⟨n,hn⟩:∃n,bl b.regions[k]=n:=⟨_,rfl⟩;have hrg:rgP b.regions (k:Int)=n:=by unfold rgP;rw [bW,bD hk];exact hn
 have x0:w.cell? ⟨bb,oo+k,none⟩=some (tx n):=by
  have:=hx;unfold RN at this;rw [Nat.mul_one,gD b.regions[k],hn] at this;exact this
 have HE:Hid (refP b.regions k mu t=[38,39] ++ n ++ [32] ++ (if mu then [109,117,116,32] else []) ++ t):=aF (by unfold refP;rw [hrg])
 have hl:n.length+t.length+7<=140737488355328+4:=by
  rw [HE.out] at hz;simp only [Sm,bB,bK,bP] at hz;omega
 have h0:¬(9223372036854775807<4+t.length):=by omega
 have h1:¬(9223372036854775807<2+n.length):=by omega
 have h2:¬(9223372036854775807<n.length+1+1+1):=by omega
 have h2b:¬(9223372036854775807<2+n.length+1):=by omega
 have h4:¬(9223372036854775807<n.length+1+1+1+t.length):=by omega
 have h4b:¬(9223372036854775807<2+n.length+1+t.length):=by omega
 have h5:¬(9223372036854775807<2+n.length+1+(4+t.length)):=by omega
 have h6:¬(9223372036854775807<2+n.length+1+(t.length+4)):=by omega
 clear hx hn hrg hz hr H hl;unfold bdC;cases mu
 all_goals
  go_enter Tryz.func83,Tryz.ntmps83
  go_wp2_with fail
  go_ret;exact ⟨by rw [HE.out];refine congrArg (fun l=>Ending.returned (Value.string l)) (ByteArray.ext ?_);simp,HB0.out _⟩
theorem eR:∀l:List (List UInt8),tailP l=l.flatMap (fun y=>44 :: 32 :: y)
 | []=>rfl
 | y :: l=>by
   rw [List.flatMap_cons,<- eR l];show 44 :: 32 :: comP (y :: l)=_;rw [fL];simp
theorem tB (xs:List (List UInt8)) (y:List UInt8) (h:xs≠[]):comP (xs ++ [y])=comP xs ++ (44 :: 32 :: y):=by
 cases xs with
 | nil=>exact absurd rfl h
 | cons x l=>rw [List.cons_append,fL,fL,eR,eR];simp
theorem yR (l:List (List UInt8)) (j:Nat):∃r,comP l=comP (l.take j) ++ r:=by
 cases l with
 | nil=>exact ⟨[],by simp⟩
 | cons x l=>
   cases j with
   | zero=>exact ⟨_,rfl⟩
   | succ j=>
     rw [List.take_succ_cons,fL,fL,eR,eR];refine ⟨(l.drop j).flatMap (fun y=>44 :: 32 :: y),?_⟩;rw [bM,<- cB,List.take_append_drop]
theorem xGB (b:Bdy) (bh:BH) (w:World) (H:BdAt w b bh) (o:Opd) (A:Option Addr) (c:Nat) (hp:Slc 2 RPj w A c o.place.proj) (ho:OkOp b.locals o) (hf:FitO o) (hz:Sm (opdP b.locals o)):
 Calls Tryz.prog 135 #[.agg (bdC b bh).toArray,.agg #[.int .i64 o.kind,.int .i64 o.place.loc,.slice A o.place.proj.length c,.int .i64 o.n]] w fun e' w'=>e' = .returned (tx (opdP b.locals o))/\Below w.heap.size w w':=by
 have HB0:=aF (fun (o o2:Obj)=>((aX w.heap.size w).alloc (aY _) o).alloc (by simp) o2);have HP0:=aF (fun (hk:o.kind<=1) (hz:Sm (placeP b.locals o.place)) (W:World) (hb:Below w.heap.size w W)=>iO b bh o.place A c W (H.keep hb) (hp.keep RPj.keeps hb) (ho.place hk).loc hf.pj hz);have HN:=aF (fun (W:World)=>rW o.n hf.n.1 hf.n.2 W);obtain ⟨A1,c1,A2,c2,A3,c3,A4,c4,A5,c5⟩:=bh;have HP:Hid ((hk:o.kind<=1)->(hz:Sm (placeP b.locals o.place))->∀W,Below w.heap.size w W->Calls Tryz.prog 50 #[.agg #[Value.string b.name,.slice A1 b.regions.length c1,.slice A2 b.outl.length c2,.slice A3 b.types.length c3,.slice A4 b.locals.length c4,.int .i64 b.args,.slice A5 b.blocks.length c5],.agg #[.int .i64 o.place.loc,.slice A o.place.proj.length c]] W fun e' w'=>e' = .returned (tx (placeP b.locals o.place))/\Below W.heap.size W w'):=HP0;obtain ⟨k,⟨l,ps⟩,n⟩:=o;have hk:=ho.kind;simp only at hk HP HN ⊢;clear H hp ho hf HP0;unfold bdC;obtain rfl | rfl | rfl | rfl | rfl:k=0\/k=1\/k=2\/k=3\/k=4:=by omega
 ·obtain ⟨t,ht⟩:∃t,placeP b.locals ⟨l,ps⟩=t:=⟨_,rfl⟩;have HE:Hid (opdP b.locals ⟨0,⟨l,ps⟩,n⟩=[99,111,112,121,32] ++ t):=aF (by rw [<- ht];rfl);have hl:5+t.length<=140737488355328:=by rw [HE.out] at hz;simp only [Sm,bB,bK,bP] at hz;omega
  have HQ:=aF (HP.out (by decide) (by rw [ht];show t.length<=_;omega));rw [ht] at HQ;clear HP HN hz ht;go_enter Tryz.func135,Tryz.ntmps135
  go_wp2_with (go_at_call 50;refine (HQ.out _ (HB0.out _ _)).mono ?_;rintro e' w1 ⟨rfl,hb1⟩;have HB1:=aF ((HB0.out _ _).trans (hb1.mono (HB0.out _ _).size));clear hb1)
  go_ret;exact ⟨by rw [HE.out];refine congrArg (fun l=>Ending.returned (Value.string l)) (ByteArray.ext ?_);simp,HB1.out⟩
 ·obtain ⟨t,ht⟩:∃t,placeP b.locals ⟨l,ps⟩=t:=⟨_,rfl⟩;have HE:Hid (opdP b.locals ⟨1,⟨l,ps⟩,n⟩=[109,111,118,101,32] ++ t):=aF (by rw [<- ht];rfl);have hl:5+t.length<=140737488355328:=by rw [HE.out] at hz;simp only [Sm,bB,bK,bP] at hz;omega
  have HQ:=aF (HP.out (by decide) (by rw [ht];show t.length<=_;omega));rw [ht] at HQ;clear HP HN hz ht;go_enter Tryz.func135,Tryz.ntmps135
  go_wp2_with (go_at_call 50;refine (HQ.out _ (HB0.out _ _)).mono ?_;rintro e' w1 ⟨rfl,hb1⟩;have HB1:=aF ((HB0.out _ _).trans (hb1.mono (HB0.out _ _).size));clear hb1)
  go_ret;exact ⟨by rw [HE.out];refine congrArg (fun l=>Ending.returned (Value.string l)) (ByteArray.ext ?_);simp,HB1.out⟩
 ·have HE:Hid (opdP b.locals ⟨2,⟨l,ps⟩,n⟩=Lib.itoa n):=aF rfl;clear HP hz;go_enter Tryz.func135,Tryz.ntmps135
  go_wp2_with (go_at_call 82;refine (HN.out _).mono ?_;rintro e' w1 ⟨rfl,hb1⟩;have HB1:=aF ((HB0.out _ _).trans (hb1.mono (HB0.out _ _).size));clear hb1)
  go_ret;exact ⟨by rw [HE.out];rfl,HB1.out⟩
 ·have HE:Hid (opdP b.locals ⟨3,⟨l,ps⟩,n⟩=boolP (decide (n=1))):=aF rfl;clear HP HN hz;by_cases h1:n=1
  ·have hd:(n == 1)=true:=by simp [h1]
   have HE2:Hid (boolP (decide (n=1))=[116,114,117,101]):=aF (by rw [decide_eq_true h1];rfl);clear h1;go_enter Tryz.func135,Tryz.ntmps135
   go_wp2_with fail
   go_ret;exact ⟨by rw [HE.out,HE2.out];rfl,HB0.out _ _⟩
  ·have hd:(n == 1)=false:=by simp [h1]
   have HE2:Hid (boolP (decide (n=1))=[102,97,108,115,101]):=aF (by rw [decide_eq_false h1];rfl);clear h1;go_enter Tryz.func135,Tryz.ntmps135
   go_wp2_with fail
   go_ret;exact ⟨by rw [HE.out,HE2.out];rfl,HB0.out _ _⟩
 ·have HE:Hid (opdP b.locals ⟨4,⟨l,ps⟩,n⟩=unitP):=aF rfl;clear HP HN hz;go_enter Tryz.func135,Tryz.ntmps135
  go_wp2_with fail
  go_ret;exact ⟨by rw [HE.out];rfl,HB0.out _ _⟩
end
section
open Go Go.ChangeShapes Go.WideShapes Go.ChangeAt Go.RowKit Go.Joins Go.Deep
theorem xES {α : Type} {n:Nat} {p:Nat-> α -> Prop} (h:∀i,i<n->∃x,p i x):∃xs:List α,xs.length=n/\∀i x,xs[i]?=some x->p i x:=by
 induction n with
 | zero=>exact ⟨[],rfl,by simp⟩
 | succ n ih=>
   obtain ⟨xs,hl,hx⟩:=ih (fun i hi=>h i (by omega));obtain ⟨y,hy⟩:=h n (by omega);refine ⟨xs ++ [y],by simp [hl],fun i x hi=>?_⟩;by_cases hin:i<n
   ·rw [List.getElem?_append_left (by omega)] at hi;exact hx i x hi
   ·have hlt:=(List.getElem?_eq_some_iff.1 hi).1;simp only [bB,cH] at hlt;obtain rfl:i=n:=by omega
    rw [<- hl,List.getElem?_concat_length] at hi;cases hi
    exact hy
theorem tK (b o n:Nat):(⟨b,o,none⟩:Addr).add n=⟨b,o+n,none⟩:=by
 unfold Addr.add;split
 ·next h=>subst h;rfl
 ·rfl
theorem wA {w:World} {a:Addr} {v:Value} (h:w.cell? a=some v):a.spot=none:=by
 cases hs:a.spot with
 | none=>rfl
 | some x=>
   unfold World.cell? at h;rw [hs] at h;split at h
   ·simp at h
   ·cases h
section
variable {H:Type} {enc:TypeId × Value->H} {P:Program} {w:World} {base:Nat} {spare:Nat->Bool} {held:Bool}
theorem xD {α : Type} {k:Nat} {R:Rd α} {t e:TypeId} {fuel:Nat} {cs:List Value} {x:DataW H × List MemPlace} (ht:P.underlying t=some (.slice e)) (hk:P.cellsOf e=k) (hk0:0<k)
 (h:DataW.trod enc P w base spare held fuel t cs=some x)
 (hR:∀(b o n:Nat) (cs':List Value) (y:DataW H × List MemPlace),cs'.length=k->(∀j,j<k->w.cell? ⟨b,o+j,none⟩=cs'[j]?)->DataW.trod enc P w base spare held n e cs'=some y->∃z,R w w.heap.size b o z):
 ∃A c,∃xs:List α,cs=[.slice A xs.length c]/\Slc k R w A c xs:=by
 rcases open_slice ht h with ⟨rfl,_⟩ | ⟨a,len,cap,m,n,D,Pl,rfl,hb,hl,hm,hmm,hx,hi⟩
 ·exact ⟨none,0,[],rfl,Sl.nil,by simp,by omega⟩
 ·obtain ⟨b,off,s⟩:=a;have hlm:len<=m:=by rw [hmm];split <;> omega
  rw [hk] at hi;unfold maxLen at hm;by_cases h0:len=0
  ·subst h0;exact ⟨_,cap,[],rfl,Sl.nil,by simp,hm⟩
  ·have hfirst:∃v,w.cell? ⟨b,off,s⟩=some v:=by
    obtain ⟨cs',hc,_⟩:=hi 0 (by omega);obtain ⟨_,hcl,hat⟩:=World.cells?_some hc;have h1:=hat 0 hk0;rw [bD (by omega)] at h1;simp only [Nat.zero_mul,Addr.add,if_true] at h1;exact ⟨_,h1⟩
   obtain ⟨v,hv⟩:=hfirst;have hs:s=none:=wA hv;subst hs
   obtain ⟨xs,hxl,hxs⟩:=xES (n:=len) (p:=fun i z=>R w w.heap.size b (off+i * k) z) (fun i hi'=>by
    obtain ⟨cs',hc,ht'⟩:=hi i (by omega);obtain ⟨_,hcl,hat⟩:=World.cells?_some hc;refine hR b (off+i * k) n cs' _ hcl (fun j hj=>?_) ht';have h1:=hat j hj;rw [tK,tK] at h1
    exact h1)
   exact ⟨_,cap,xs,by rw [hxl],⟨fun _=>⟨b,off,rfl,cE _ _ hv,hxs⟩,by omega,hm⟩⟩
theorem yF {e:TypeId} {fs:Array Field} {n:Nat} {cs:List Value} {y:DataW H × List MemPlace} (he:P.underlying e=some (.struct fs)) (hone:oneCellFields P fs=true)
 (h:DataW.trod enc P w base spare held n e cs=some y) (hl:cs.length=fs.size) {j:Nat} {f:Field} (hf:fs[j]?=some f):
 ∃v m y',cs[j]?=some v/\DataW.trod enc P w base spare held m f.type [v]=some y':=by
 obtain ⟨ys,m,_,_,_,hyl,hfl⟩:=DataW.trod_struct he h;have hjl:j<fs.size:=(Array.getElem?_eq_some_iff.1 hf).1;obtain ⟨ho,hk⟩:=hone_of hone j f hf;have h1:=hfl j f hf;rw [ho,hk,cI (show j<cs.length by omega)] at h1;refine ⟨cs[j],m,ys[j],bD _,?_⟩;rw [bD (show j<ys.length by omega)] at h1;exact h1
theorem jD (hl:laidOutB P=true) {W W':World} {sp:Nat->Bool}:∀(ts:List TypeId) (vs:List Value) (ds:List (DataW H)) (ps:List MemPlace),
 (∀t∈ts,P.readableRec t=true/\t<P.types.size)->DataW.TrodAll enc P W 0 (fun _=>true) true ts vs ds ps->(∀p∈ps,W.sameAt W' p)->(∀p∈ps,sp p.block=true)->DataW.TrodAll enc P W' 0 sp true ts vs ds ps
 | [],[],[],_,_,h,_,_=>h
 | t :: ts,v :: vs,d :: ds,ps,hr,h,hs,hp=>by
   obtain ⟨p,q,h1,h2,rfl⟩:=h
   exact ⟨p,q,WideElems.Trod_stays hl (hr t (by simp)).1 (hr t (by simp)).2 h1 (fun x hx=>hs x (by simp [hx])) (fun x hx=>hp x (by simp [hx])),
    jD hl ts vs ds q (fun t' ht=>hr t' (by simp [ht])) h2 (fun x hx=>hs x (by simp [hx])) (fun x hx=>hp x (by simp [hx])),rfl⟩
 | [],[],_ :: _,_,_,h,_,_=>h.elim
 | [],_ :: _,_,_,_,h,_,_=>h.elim
 | _ :: _,[],_,_,_,h,_,_=>h.elim
 | _ :: _,_ :: _,[],_,_,h,_,_=>h.elim
theorem xBG {f:Func} {s:ChangeSpec} {apart fresh handsOn:Bool} {W W':World} {args:Array Value} {ds:List (DataW H)} {before:List MemPlace} {tb:TypeId}
 (hl:laidOutB P=true) (hvars:s.vars=[]) (hrt:f.resultTypes = #[tb]) (htb:P.underlying tb=some .bool)
 (hfn:s.fn H ds={ results:=[.lit (.bool true)],args:=ds }) (hrd:∀t∈f.params.toList,P.readableRec t=true/\t<P.types.size)
 (hW:DataW.Whole enc P f.params.toList s.vars apart W args.toList ds [] before) (hb:Below W.heap.size W W'):
 s.post enc P f apart fresh handsOn false W args (.bool true) W':=by
 have hlt:∀p∈before,p.block<W.heap.size:=fun p hp=>hW.lt p hp
 have hW2:=hW;obtain ⟨p,q,hA,hV,hbe,_,_⟩:=hW2;rw [hvars] at hV;obtain ⟨_,rfl⟩:=trodVars_none hV;rw [List.append_nil] at hbe;subst hbe;refine ⟨ds,[],before,[],before,[],hW,?_,?_,?_,World.keptBut_mono (fun p hp=>⟨hp,Or.inr (Or.inl hp)⟩) (hb.frame (· ∈ before)),fun h=>by cases h⟩
 ·rw [List.append_nil,hfn,hrt];exact trodAll_mk1 (shut_bool htb true)
 ·rw [List.append_nil,hfn];exact jD hl _ _ _ _ hrd hA (fun x hx=>hb.same (hlt x hx)) (fun x hx=>by simpa using hlt x hx)
 ·rw [List.append_nil,hfn,hvars];rfl
end
theorem Tryz.own:ownKnob Tryz.prog.godebug=none:=by kernel_rfl
theorem Tryz.laidOut:laidOutB Tryz.prog=true:=by kernel_rfl
section
variable {H:Type} {enc:TypeId × Value->H} {w:World} {base:Nat} {spare:Nat->Bool} {held:Bool}
end
theorem xM {α : Type}:∀{l:List α},l.length=2->∃a b,l=[a,b]
 | [a,b],_=>⟨a,b,rfl⟩
section
variable {H:Type} {enc:TypeId × Value->H} {P:Program} {w:World} {base:Nat} {spare:Nat->Bool} {held:Bool}
theorem xB {e:TypeId} {f0 f1:Field} {m:Nat} {cs:List Value} {a b:Int} {x:DataW H × List MemPlace} (he:P.underlying e=some (.struct #[f0,f1])) (hone:oneCellFields P #[f0,f1]=true) (hC:P.cellsOf e=2)
 (hf0:P.underlying f0.type=some (.int .i64)) (hf1:P.underlying f1.type=some (.int .i64))
 (h:DataW.trod enc P w base spare held m e cs=some x) (hx1:x.1 = .agg [.lit (.int .i64 a),.lit (.int .i64 b)]):cs[0]?=some (.int .i64 a)/\cs[1]?=some (.int .i64 b):=by
 obtain ⟨ys,n,_,rfl,hcl,hyl,hfl⟩:=DataW.trod_struct he h;obtain ⟨y0,y1,rfl⟩:=xM (show ys.length=2 from hyl);obtain ⟨c0,c1,rfl⟩:=xM (hcl.trans hC);obtain ⟨o0,k0⟩:=hone_of hone 0 f0 rfl;obtain ⟨o1,k1⟩:=hone_of hone 1 f1 rfl;have g0:=hfl 0 f0 rfl;have g1:=hfl 1 f1 rfl;rw [o0,k0] at g0;rw [o1,k1] at g1;obtain ⟨n0,e0,z0,_⟩:=DataW.trod_int (k:= .i64) (x:=y0) hf0 g0;obtain ⟨n1,e1,z1,_⟩:=DataW.trod_int (k:= .i64) (x:=y1) hf1 g1;simp only [cK,List.map_nil,z0,z1,DataW.agg.injEq,List.cons.injEq,DataW.lit.injEq,Lit.int.injEq,and_true,true_and] at hx1;obtain ⟨rfl,rfl⟩:=hx1;simp at e0 e1;subst e0 e1;exact ⟨rfl,rfl⟩
theorem uQ {t e:TypeId} {n:Nat} {f0 f1:Field} {m:Nat} {cs:List Value} {l:List (Int × Int)} {x:DataW H × List MemPlace} (ht:P.underlying t=some (.array n e)) (he:P.underlying e=some (.struct #[f0,f1])) (hone:oneCellFields P #[f0,f1]=true) (hC:P.cellsOf e=2)
 (hf0:P.underlying f0.type=some (.int .i64)) (hf1:P.underlying f1.type=some (.int .i64))
 (h:DataW.trod enc P w base spare held m t cs=some x) (hx:x.1 = .agg (l.map fun p=> .agg [.lit (.int .i64 p.1),.lit (.int .i64 p.2)])) (i:Nat) (p:Int × Int) (hi:l[i]?=some p):
 cs[i * 2]?=some (.int .i64 p.1)/\cs[i * 2+1]?=some (.int .i64 p.2):=by
 obtain ⟨xs,k,_,rfl,hcl,hxl,hel⟩:=DataW.trod_array ht h;have hm:xs.map (·.1)=l.map fun p=> .agg [.lit (.int .i64 p.1),.lit (.int .i64 p.2)]:=by simpa using hx
 have hll:xs.length=l.length:=by simpa using congrArg List.length hm
 have hil:=(List.getElem?_eq_some_iff.1 hi).1;have h1:=hel i (by omega);rw [hC,bD (show i<xs.length by omega)] at h1
 have hx1:xs[i].1 = .agg [.lit (.int .i64 p.1),.lit (.int .i64 p.2)]:=by
  have:=congrArg (fun z=>z[i]?) hm;simp only [cM,hi,bD (show i<xs.length by omega),Option.map_some,cJ] at this;exact this
 obtain ⟨q0,q1⟩:=xB he hone hC hf0 hf1 h1 hx1;simp only [List.getElem?_take,List.getElem?_drop,Nat.add_zero] at q0 q1;rw [bA (by omega)] at q0 q1;exact ⟨q0,q1⟩
end
theorem gUn : Tryz.prog.globalNamed "mirtower/valid.unary" = some 0 := by kernel_rfl
theorem gUnT:(Tryz.prog.globals[0]?).map (·.type)=some 214:=by kernel_rfl
theorem gBi : Tryz.prog.globalNamed "mirtower/valid.binary" = some 1 := by kernel_rfl
theorem gBiT:(Tryz.prog.globals[1]?).map (·.type)=some 215:=by kernel_rfl
theorem xBU:Tryz.prog.cellsOf 213=2:=by kernel_rfl
theorem mV {n:String} {g:Nat} {tid:TypeId} {k:Nat} {l:List (Int × Int)} {r:List (String × DataW Unit)} {w:World} (hg:Tryz.prog.globalNamed n=some g) (ht:(Tryz.prog.globals[g]?).map (·.type)=some tid) (hu:Tryz.prog.underlying tid=some (.array k 213)) (hk:l.length=k) (hk0:0<k) (hkm:k<=1000)
 (h:laidMet Tryz.prog ((n,.agg (l.map fun p=> .agg [.lit (.int .i64 p.1),.lit (.int .i64 p.2)])) :: r) w):Slc 2 RPr w (some ⟨g,0,none⟩) k l:=by
 subst hk;obtain ⟨ps,⟨g0,t0,cs0,f0,p0,q0,hg0,ht0,hv0,hd0,_,e0⟩,_,_⟩:=h;obtain rfl:=Option.some.inj (hg.symm.trans hg0);obtain rfl:=Option.some.inj (ht.symm.trans ht0);have hc:=fun i p hi=>uQ hu Tryz.underlying213 (by kernel_rfl) xBU Tryz.underlying3 Tryz.underlying3 hd0 rfl i p hi
 have hcell:=fun i=>World.var?_cell hg0 hv0 i
 refine ⟨fun _=>⟨g,0,rfl,?_,fun i p hi=>?_⟩,aY _,by omega⟩
 ·obtain ⟨p,hp⟩:∃p,l[0]?=some p:=⟨_,bD hk0⟩;have h1:=(hc 0 p hp).1;have h2:=hcell 0;rw [show cs0[0]?=cs0.toList[0]? from (Array.getElem?_toList ..).symm,show cs0.toList[0]?=_ from h1] at h2;exact cE _ _ h2
 ·have h1:=hc i p hi;have h2:=hcell (i * 2);have h3:=hcell (i * 2+1);rw [<- Array.getElem?_toList,h1.1] at h2;rw [<- Array.getElem?_toList,h1.2] at h3;refine ⟨?_,?_⟩
  ·rw [Nat.zero_add];exact h2
  ·rw [Nat.zero_add];exact h3
end
end Go.Proofs.YtmknfbfppmkcfaaGreatDoor
