/-
  BindeclIsCanonical: a statement of Bindecl (part 2)
-/
import Derived.Test.YtbnljlpefpllcaaGreatDoorNC1
import Derived.Lib.Hide
import Derived.Below
import Derived.WalkSmall
import Derived.Laws.World
import Derived.Test.YtbnljlpefpllcaaGreatDoorProg
import Derived.WalkKit
import Derived.WalkSpells
import Derived.WalkLawsBesides
import Derived.Deep.RegionHeld3
import Derived.Deep.DeepFit
import Derived.Deep.QuietTactic
import Derived.BigQuiet
import Derived.OwnWalk
import Derived.Maps.AppendAt
import Derived.Deep.DeepCutAuto
import Derived.StillTailTactics
import Derived.RangeFuncNested
import Derived.RangeFuncBound
import Derived.RangeFuncCalls
import Derived.RangeFuncLeaves
import Derived.OwnWalkIn
import Derived.TacticsInMore
import Derived.LoopNIn
import Derived.LoopIn
import Derived.Laws.Bits64b
import Derived.Shelf.Abstract
import Derived.OrdersHeld
import Derived.Deep.RegionHeld
import Derived.Lib.SliceRun
import Derived.Test.YtbnljlpefpllcaaGreatDoorSg
import Derived.Deep.AppendSrc
import Derived.Maps.OwnSet
import Derived.Maps.OwnOps
import Derived.StringKeys
import Derived.Laws.MathBits
import Derived.Test.YtbnljlpefpllcaaGreatDoorSh
import Derived.WideKeyPair
import Derived.WideKeyArr
import Derived.Deep.MidRow
import Derived.Deep.LoopGhost
import Derived.Lib.SlicesCompact
import Derived.Sort.Walk0
import Derived.Sort.OwnSorted
import Derived.Test.YtbnljlpefpllcaaGreatDoorRows
import Derived.ProofKit
import Derived.Deep.Slices
import Derived.Deep.Fields
import Derived.Lib.SmallJoins
import Derived.OpenShut
import Derived.LaidMore
import Derived.Stop.Joined
import Derived.Stop.LaidErr
import Derived.Lay
import Derived.SevenTiedAt
import Derived.ChangeKeysEq
import Derived.Deep.CutBlock
import Derived.Test.YtbnljlpefpllcaaGreatDoorTie
import Derived.Test.YtbnljlpefpllcaaGreatDoorCards
import Derived.SizedLaws
namespace Go.Proofs.YtbnljlpefpllcaaGreatDoor
set_option maxRecDepth 100000
set_option maxHeartbeats 16000000
section
open Go Go.RowKit
theorem xIG (l:List ByteArray):(tabB [] l).Nodup:=
 List.Pairwise.imp (fun {a b} (h:bl a<bl b)=>(fun e:a=b=>iD (bl b) (by rw [e] at h;exact h):a≠b)) (kP l)
def Lit2 (b:Bdy) (er:Int) (w:World) (e':Ending) (w':World):Prop:=
 ∃A1 a1 A2 a2 A3 a3 A4 a4 A5 a5,e' = .returned (.tuple #[.agg #[.string b.name,.slice A1 b.regions.length a1,.slice A2 b.outl.length a2,.slice A3 b.types.length a3,.slice A4 b.locals.length a4,.int .i64 b.args,.slice A5 b.blocks.length a5],.int .i64 er])∧BdAt w' b ⟨A1,a1,A2,a2,A3,a3,A4,a4,A5,a5⟩∧Below w.heap.size w w'
theorem Lit2.of {b:Bdy} {er:Int} {w:World} (e':Ending) (w':World) (h:∃bh,e' = .returned (.tuple #[.agg (bdC b bh).toArray,.int .i64 er])∧BdAt w' b bh∧Below w.heap.size w w'):Lit2 b er w e' w':=by
 obtain ⟨⟨A1,a1,A2,a2,A3,a3,A4,a4,A5,a5⟩,h1,h2,h3⟩:=h
 exact ⟨A1,a1,A2,a2,A3,a3,A4,a4,A5,a5,h1,h2,h3⟩
theorem xIY {t:List ByteArray} {b:Bdy} (hc:chkB b=0) (hg:DGood t b):encR t b=(0,declW t b):=by
 unfold encR
 rw [aY hc,aY (wR hg),xDN hg]
def NoRes (er:Int) (w:World) (e':Ending) (w':World):Prop:=
 ∃E1 e1 E2 e2 E3 e3 E4 e4 E5 e5,e' = .returned (.tuple #[.agg #[.string ⟨#[]⟩,.slice E1 0 e1,.slice E2 0 e2,.slice E3 0 e3,.slice E4 0 e4,.int .i64 0,.slice E5 0 e5],.int .i64 er])∧Below w.heap.size w w'
theorem NoRes.of {er:Int} {w:World} (e':Ending) (w':World) (h:∃bh,e' = .returned (.tuple #[.agg (bdC jZ bh).toArray,.int .i64 er])∧BdAt w' jZ bh∧Below w.heap.size w w'):NoRes er w e' w':=by
 obtain ⟨⟨A1,a1,A2,a2,A3,a3,A4,a4,A5,a5⟩,h1,_,h3⟩:=h
 exact ⟨A1,a1,A2,a2,A3,a3,A4,a4,A5,a5,h1,h3⟩
theorem xHZ {α : Type} {f:Rs→ α × Rs}:∀(n:Nat) (s:Rs) (x : α),x∈(itemsS f n s).1→∃r,x=(f r).1
 | 0,s,x,h=>by unfold itemsS at h;cases h
 | n+1,s,x,h=>by
   unfold itemsS at h
   split at h
   ·rcases List.mem_cons.1 h with e | e
    ·exact ⟨s,e⟩
    ·exact xHZ n _ x e
   ·cases h
theorem xHY (t:List ByteArray) (s:Rs):(nameS t s).1∈t∨(nameS t s).1=ByteArray.empty:=by
 unfold nameS
 split
 ·split
  ·next h=>exact .inl (List.mem_of_getElem? h)
  ·exact .inr rfl
 ·exact .inr rfl
theorem xIK (t:List ByteArray) (data:List UInt8):∀s∈encN (decS t data).1,s∈t∨s=ByteArray.empty:=by
 unfold decS
 split
 ·intro s hs
  unfold encN bodyS at hs
  rcases List.mem_append.1 hs with hs | hs
  ·rcases List.mem_cons.1 hs with e | hs
   ·rw [e];exact xHY _ _
   ·obtain ⟨r,e⟩:=xHZ _ _ _ hs
    rw [e];exact xHY _ _
  ·obtain ⟨x,hx,rfl⟩:=List.mem_map.1 hs
   obtain ⟨r,e⟩:=xHZ _ _ _ hx
   rw [e];exact xHY _ _
 ·intro s hs
  have hs':s∈[ByteArray.empty]:=hs
  exact .inr (List.mem_singleton.1 hs')
theorem xIU (t:List ByteArray) (data:List UInt8):(decS t data).2≠0→(decS t data).1=jZ:=by
 unfold decS
 split
 ·intro h;exact absurd rfl h
 ·intro _;rfl
theorem xIJ {s:ByteArray} (h:isIdent s=true):s.size≤255:=by
 unfold isIdent at h
 have e:s.size=s.data.toList.length:=by rw [Array.length_toList];rfl
 rw [e]
 cases hl:s.data.toList with
 | nil=>simp
 | cons c r=>
   rw [hl] at h
   unfold qT at h
   simp only [bP,decide_eq_true_eq] at h
   simp only [bJ]
   omega
def retB:Blk:=⟨[],⟨2,[],[],⟨0,[]⟩,⟨#[]⟩⟩⟩
theorem xIW {b:Bdy} {t:List ByteArray} (h:∀s∈encN b,s∈t∨s=ByteArray.empty) (ht:∀s∈t,isIdent s=true):NmOk { b with blocks:=[retB] }:=by
 have g:∀s∈encN b,s.size≤9223372036854775807:=fun s hs=>by
  rcases h s hs with e | e
  ·have:=xIJ (ht s e);omega
  ·subst e;decide
 unfold encN at g
 refine ⟨g _ (by simp),fun s hs=>g s (by simp only at hs;simp [hs]),fun x hx=>g _ ?_,fun x hx=>?_⟩
 ·simp only at hx
  simp only [cL,List.mem_map]
  exact .inr ⟨x,hx,rfl⟩
 ·simp only [bR] at hx
  subst hx
  decide
theorem good2 {b:Bdy} {t:List ByteArray} (h:∀s∈encN b,s∈t∨s=ByteArray.empty) (hc:chkB { b with blocks:=[retB] }=0) (ht:t.length≤65536):DGood t { b with blocks:=[retB] }:=by
 refine xDK (iB hc) ht (fun s hs=>tZ.2 ?_)
 have hi:=xIM hc s (by unfold allN;exact List.mem_append_left _ hs)
 rcases h s hs with e | e
 ·exact e
 ·subst e;exact absurd hi (by decide)
theorem xIR (data:List UInt8) (A:Option Addr) (c:Nat) (xs:List ByteArray) (B:Option Addr) (d:Nat) (w:World) (hT:TabsOk w) (hs:Slc 1 RB w A c data) (hx:Slc 1 RN w B d xs):
 Calls Tryz.prog 6 #[.slice A data.length c,.slice B xs.length d] w (fun e' w'=>e' = .returned (.bool true)∧Below w.heap.size w w'):=by
 have hle:=hs.le
 have hbg:=hs.big
 have HS:=aF (fun X hb=>hs.keep (w':=X) RB.keeps hb)
 have HX:=aF hx
 have HT:=aF (fun X hb=>hT.keep (w':=X) hb)
 have HL:=aF (fun W' hb=>xAS W' (hT.keep hb))
 clear hs hx hT
 go_enter Tryz.func6,Tryz.ntmps6
 go_wp2_with fail
 go_at_call 8
 refine (uY xs B d w HX.out).mono ?_
 rintro e' w1 ⟨hb1,h1⟩
 have HB1:=aF hb1
 clear hb1 HX
 rcases h1 with ⟨rfl,_⟩ | ⟨hid,hxl,t,B1,d1,T,d2,rfl,ht,-,-⟩
 ·go_wp2_with fail
  go_at_call 10
  refine (HL.out w1 HB1.out).mono ?_
  rintro e' w2 ⟨rfl,hb2⟩
  have HB2:=aF (keep0 hb2 HB1.out)
  clear hb2
  go_wp2_with fail
  go_ret
  exact ⟨rfl,HB2.out⟩
 by_cases hlen:data.length≤3000
 case neg=>
  clear ht hid
  go_wp2_with fail
  go_at_call 10
  refine (HL.out w1 HB1.out).mono ?_
  rintro e' w2 ⟨rfl,hb2⟩
  have HB2:=aF (keep0 hb2 HB1.out)
  clear hb2
  go_wp2_with fail
  go_ret
  exact ⟨rfl,HB2.out⟩
 have htl:=xGQ hxl
 have hsrt:=kP xs
 have HND:=xIG xs
 have HIDT:Hid (∀s∈tabB [] xs,isIdent s=true):=aF (fun s hs=>hid s ((xIO _ _).1 hs))
 generalize tabB [] xs=tbl at *
 have HD:=aF ((sE data A c t B1 d1 tbl w1 (HS.out w1 HB1.out) (by omega) ht).mono Lit2.of)
 have HCAN:Hid (∀b,decS tbl data=(b,0)→declW tbl b=data):=aF (fun b h=>xIV HND h)
 have HNM:=aF (xIK tbl data)
 have HER:=aF (xIU tbl data)
 have hblk:=xIC tbl data
 have HTT:=aF ht
 have HSO:=aF hsrt
 obtain ⟨z,hz⟩:∃z,decS tbl data=z:=⟨_,rfl⟩
 rw [hz] at HD HNM HER hblk
 have HZ:=aF hz
 obtain ⟨b,er⟩:=z
 simp only at HD HNM HER hblk
 have HBL:=aF hblk
 clear hblk hz ht hsrt HND hid
 go_wp2_with fail
 go_at_call 14
 refine HD.out.mono ?_
 rintro e' w2 ⟨A1,a1,A2,a2,A3,a3,A4,a4,A5,a5,rfl,hbd,hb2⟩
 have HB2:=aF (keep0 hb2 HB1.out)
 have HTT2:=aF (HTT.out.keep hb2)
 have HBD2:=aF hbd
 clear hb2 hbd HD HTT
 by_cases he:er=0
 case neg=>
  have hnb:=HER.out he
  have e1:(er != 0)=true:=by simp [he]
  subst hnb
  have HK:Hid (∀X,Below w2.heap.size w2 X→Calls Tryz.prog 16 #[.agg #[.string ⟨#[]⟩,.slice A1 0 a1,.slice A2 0 a2,.slice A3 0 a3,.slice A4 0 a4,.int .i64 0,.slice A5 0 a5],.agg #[.string ⟨#[]⟩,.slice none 0 0,.slice none 0 0,.slice none 0 0,.slice none 0 0,.int .i64 0,.slice none 0 0]] X fun e' w'=>e' = .returned (.bool true)∧Below X.heap.size X w'):=aF (fun X hb=>xIH jZ ⟨A1,a1,A2,a2,A3,a3,A4,a4,A5,a5⟩ ⟨none,0,none,0,none,0,none,0,none,0⟩ X rfl (HBD2.out.keep hb) ⟨⟨Sl.nil,Nat.zero_le _,Nat.zero_le _⟩,⟨Sl.nil,Nat.zero_le _,Nat.zero_le _⟩,⟨Sl.nil,Nat.zero_le _,Nat.zero_le _⟩,⟨Sl.nil,Nat.zero_le _,Nat.zero_le _⟩,⟨Sl.nil,Nat.zero_le _,Nat.zero_le _⟩⟩)
  simp only [jZ,bO,show ByteArray.empty=(⟨#[]⟩:ByteArray) from rfl]
  clear he HER HNM HCAN HZ HBL
  obtain ⟨W3,hW3⟩:∃W3,w2.alloc (.cells #[.string ⟨#[]⟩,.slice A1 0 a1,.slice A2 0 a2,.slice A3 0 a3,.slice A4 0 a4,.int .i64 0,.slice A5 0 a5] 28)=W3:=⟨_,rfl⟩
  have HK3:Hid (W3.heap[w2.heap.size]?=some (.cells #[.string ⟨#[]⟩,.slice A1 0 a1,.slice A2 0 a2,.slice A3 0 a3,.slice A4 0 a4,.int .i64 0,.slice A5 0 a5] 28 (0,0))):=aF (by rw [← hW3];exact heap_alloc_new _ _)
  have HB3:Hid (Below w2.heap.size w2 W3):=aF (by rw [← hW3];exact alF _ _)
  go_wp2_with fail
  go_at_call 10
  refine (HL.out W3 (keep0 HB3.out HB2.out)).mono ?_
  rintro e' w4 ⟨rfl,hb4⟩
  obtain ⟨s0,s1,s2,s3,s4,s5,s6,_⟩:=blk7 ((hb4.block _ (Array.getElem?_eq_some_iff.1 HK3.out).1).trans HK3.out)
  have HB4:=aF (keep0 hb4 HB3.out)
  have HV:=aF (HK.out w4 HB4.out)
  clear hb4 HK
  go_wp2_with fail
  go_at_call 16
  refine HV.out.mono ?_
  rintro e' w5 ⟨rfl,hb5⟩
  have HB5:=aF (keep0 (keep0 hb5 HB4.out) HB2.out)
  clear hb5
  go_wp2_with fail
  go_ret
  exact ⟨rfl,HB5.out⟩
 case pos=>
 subst he
 have HCA:=aF (HCAN.out b HZ.out)
 clear HER HCAN HZ
 obtain ⟨W3,hW3⟩:∃W3,(w2.alloc (.cells #[.string b.name,.slice A1 b.regions.length a1,.slice A2 b.outl.length a2,.slice A3 b.types.length a3,.slice A4 b.locals.length a4,.int .i64 b.args,.slice (some ⟨w2.heap.size+1,0,none⟩) 1 1] 28)).alloc (.cells #[.slice none 0 0,.int .i64 2,.slice none 0 0,.slice none 0 0,.int .i64 0,.slice none 0 0,.string ⟨#[]⟩] 60)=W3:=⟨_,rfl⟩
 have hk3:W3.heap[w2.heap.size]?=some (.cells #[.string b.name,.slice A1 b.regions.length a1,.slice A2 b.outl.length a2,.slice A3 b.types.length a3,.slice A4 b.locals.length a4,.int .i64 b.args,.slice (some ⟨w2.heap.size+1,0,none⟩) 1 1] 28 (0,0)):=by
  rw [← hW3,Below.heap_alloc _ _ _ (by simp)]
  exact heap_alloc_new _ _
 have hk4:W3.heap[w2.heap.size+1]?=some (.cells #[.slice none 0 0,.int .i64 2,.slice none 0 0,.slice none 0 0,.int .i64 0,.slice none 0 0,.string ⟨#[]⟩] 60 (0,0)):=by
  rw [← hW3]
  have:=heap_alloc_new (w2.alloc (.cells #[.string b.name,.slice A1 b.regions.length a1,.slice A2 b.outl.length a2,.slice A3 b.types.length a3,.slice A4 b.locals.length a4,.int .i64 b.args,.slice (some ⟨w2.heap.size+1,0,none⟩) 1 1] 28)) (.cells #[.slice none 0 0,.int .i64 2,.slice none 0 0,.slice none 0 0,.int .i64 0,.slice none 0 0,.string ⟨#[]⟩] 60)
  rwa [bH] at this
 have hb3:Below w2.heap.size w2 W3:=by rw [← hW3];exact ((aV _ _).alloc (aW _) _).alloc (by simp) _
 obtain ⟨g0,g1,g2,g3,g4,g5,g6,_⟩:=blk7 hk4
 have hbd3:BdAt W3 { b with blocks:=[retB] } ⟨A1,a1,A2,a2,A3,a3,A4,a4,some ⟨w2.heap.size+1,0,none⟩,1⟩:=by
  have h:=HBD2.out.keep hb3
  refine ⟨h.reg,h.out,h.typ,h.loc,⟨fun _=>⟨_,0,rfl,(Array.getElem?_eq_some_iff.1 hk4).1,fun i x hi=>?_⟩,aW _,show (1:Nat)≤9223372036854775807 by omega⟩⟩
  match i,hi with
  | 0,hi=>
    obtain rfl:retB=x:=by simpa using hi
    exact ⟨⟨none,0,g0,aW _,Nat.zero_le _,Sl.nil⟩,g1,⟨none,0,g2,aW _,Nat.zero_le _,Sl.nil⟩,⟨none,0,g3,aW _,Nat.zero_le _,Sl.nil⟩,⟨g4,⟨none,0,g5,aW _,Nat.zero_le _,Sl.nil⟩⟩,g6⟩
  | i+1,hi=>simp at hi
 obtain ⟨b2,hb2e⟩:∃b2:Bdy,{ b with blocks:=[retB] }=b2:=⟨_,rfl⟩
 have hnz:NmOk b2:=by rw [← hb2e];exact xIW HNM.out HIDT.out
 have HGD:Hid (chkB b2=0→DGood tbl b2):=aF (by rw [← hb2e];exact fun h=>good2 HNM.out h (by omega))
 have HDW:Hid (declW tbl b2=data):=aF (by rw [← hb2e];exact HCA.out)
 have HSK:Hid (Calls Tryz.prog 9 #[.agg #[.string b.name,.slice A1 b.regions.length a1,.slice A2 b.outl.length a2,.slice A3 b.types.length a3,.slice A4 b.locals.length a4,.int .i64 b.args,.slice (some ⟨w2.heap.size+1,0,none⟩) 1 1]] W3 fun e' w'=>(∃q:Int,e' = .returned (.int .i64 q)∧(q≤0→NotSkip b2))∧Below W3.heap.size W3 w'):=aF (by
  rw [← hb2e] at hnz ⊢
  exact xBV { b with blocks:=[retB] } ⟨A1,a1,A2,a2,A3,a3,A4,a4,some ⟨w2.heap.size+1,0,none⟩,1⟩ W3 hbd3 hnz)
 have HCK:Hid (∀X,Below W3.heap.size W3 X→Calls Tryz.prog 17 #[.agg #[.string b.name,.slice A1 b.regions.length a1,.slice A2 b.outl.length a2,.slice A3 b.types.length a3,.slice A4 b.locals.length a4,.int .i64 b.args,.slice (some ⟨w2.heap.size+1,0,none⟩) 1 1]] X fun e' w'=>e' = .returned (.int .i64 (chkB b2))∧Below X.heap.size X w'):=aF (by
  rw [← hb2e] at hnz ⊢
  exact fun X hb=>rY { b with blocks:=[retB] } ⟨A1,a1,A2,a2,A3,a3,A4,a4,some ⟨w2.heap.size+1,0,none⟩,1⟩ X (hbd3.keep hb) hnz)
 have HEN:Hid (∀X,Below W3.heap.size W3 X→chkB b2=0→Calls Tryz.prog 11 #[.agg #[.string b.name,.slice A1 b.regions.length a1,.slice A2 b.outl.length a2,.slice A3 b.types.length a3,.slice A4 b.locals.length a4,.int .i64 b.args,.slice (some ⟨w2.heap.size+1,0,none⟩) 1 1],.pointer (some ⟨t,0,none⟩)] X (uQ (encR tbl b2) X)):=aF (by
  intro X hb hc
  have hg:=HGD.out hc
  rw [← hb2e] at hg hc ⊢
  exact (lB { b with blocks:=[retB] } ⟨A1,a1,A2,a2,A3,a3,A4,a4,some ⟨w2.heap.size+1,0,none⟩,1⟩ t B1 d1 tbl X (hbd3.keep hb) (HT.out X (keep0 (keep0 hb hb3) HB2.out)) (HTT2.out.keep (keep0 hb hb3)) HSO.out (by omega) (fun _=>by
   rw [xDN hg,show declW tbl { b with blocks:=[retB] }=data from HCA.out]
   omega)).mono (fun _ _=>EncPost.res))
 have HK3:=aF hk3
 obtain ⟨s0,s1,s2,s3,s4,s5,s6,_⟩:=blk7 hk3
 have HB3:=aF hb3
 have hW3b:Hid (Below w.heap.size w W3):=aF (keep0 hb3 HB2.out)
 clear hk3 hk4 hb3 g0 g1 g2 g3 g4 g5 g6 hbd3 hb2e hnz HNM HCA HBD2 HTT2 HIDT HSO HBL
 go_wp2_with fail
 go_at_call 9
 refine HSK.out.mono ?_
 rintro e' w4 ⟨⟨q,rfl,_⟩,hb4⟩
 clear s0 s1 s2 s3 s4 s5 s6
 have HB4:=aF hb4
 obtain ⟨s0,s1,s2,s3,s4,s5,s6,_⟩:=blk7 ((hb4.block _ (Array.getElem?_eq_some_iff.1 HK3.out).1).trans HK3.out)
 clear hb4 HSK
 by_cases hq0:0<q
 ·go_wp2_with fail
  go_at_call 10
  refine (HL.out w4 (keep0 HB4.out hW3b.out)).mono ?_
  rintro e' w5 ⟨rfl,hb5⟩
  have HB5:=aF (keep0 hb5 (keep0 HB4.out hW3b.out))
  clear hb5
  go_wp2_with fail
  go_ret
  exact ⟨rfl,HB5.out⟩
 have hq1:q≤0:=by omega
 go_wp2_with fail
 go_at_call 17
 refine (HCK.out w4 HB4.out).mono ?_
 rintro e' w5 ⟨rfl,hb5⟩
 have HB5:=aF (keep0 hb5 HB4.out)
 clear hb5 HCK s0 s1 s2 s3 s4 s5 s6
 by_cases hc:chkB b2=0
 case neg=>
  generalize chkB b2=ch at *
  have e1:(ch != 0)=true:=by simp [hc]
  clear hc
  go_wp2_with fail
  go_at_call 10
  refine (HL.out w5 (keep0 HB5.out hW3b.out)).mono ?_
  rintro e' w6 ⟨rfl,hb6⟩
  have HB6:=aF (keep0 hb6 (keep0 HB5.out hW3b.out))
  clear hb6
  go_wp2_with fail
  go_ret
  exact ⟨rfl,HB6.out⟩
 have HE5:=aF (HEN.out w5 HB5.out hc)
 rw [xIY hc (HGD.out hc),HDW.out] at HE5
 rw [hc]
 obtain ⟨s0,s1,s2,s3,s4,s5,s6,_⟩:=blk7 ((HB5.out.block _ (Array.getElem?_eq_some_iff.1 HK3.out).1).trans HK3.out)
 clear hc HGD HDW HEN HK3
 go_wp2_with fail
 go_at_call 11
 refine HE5.out.mono ?_
 rintro e' w6 ⟨P,p,rfl,hs6,hb6⟩
 simp only at hs6 ⊢
 have HB6:=aF (keep0 (keep0 hb6 HB5.out) hW3b.out)
 have HS6:=aF hs6
 clear hb6 hs6 s0 s1 s2 s3 s4 s5 s6
 go_wp2_with fail
 go_at_call 10
 refine (HL.out w6 HB6.out).mono ?_
 rintro e' w7 ⟨rfl,hb7⟩
 have HB7:=aF (keep0 hb7 HB6.out)
 have HQ:=aF (lU (HS6.out.keep RB.keeps hb7) (HS.out w7 HB7.out) _ _ rfl rfl)
 rw [show decide (data=data)=true by simp] at HQ
 clear hb7 HS6
 go_wp2_with fail
 go_at_call 13
 refine HQ.out.mono ?_
 rintro e' w8 ⟨rfl,hw⟩
 obtain rfl:=hw.symm
 go_wp2_with fail
 go_ret
 exact ⟨rfl,HB7.out⟩
end
section
open Go Go.ChangeShapes Go.WideShapes Go.ChangeAt Go.RowKit
theorem xHR (os:Os) (started:os.Started) (H:Type) (enc:TypeId × Value→H):
 ReturnsInHanded {} Tryz.checked os 6 .any (fun w args=>(Rows.bindeclIsCanonicalSpec.pre enc Tryz.prog Tryz.f6 [] false w args∧laidMetH Tryz.prog Rows.bindeclIsCanonicalRow.laid w)∧sizedMet enc Tryz.prog Tryz.f6 (OpenSpec.ofChange Rows.bindeclIsCanonicalSpec) false w args)
  (Rows.bindeclIsCanonicalSpec.post enc Tryz.prog Tryz.f6 false true false false):=by
 refine returnsInHanded_of_change_and (C:=Tryz.checked) (X:=fun w _=>laidMetH Tryz.prog Rows.bindeclIsCanonicalRow.laid w) (fun _ _ _ hh h=>h.of_heap hh) Tryz.own started (by kernel_rfl) Tryz.func6
  (ChangeSpec.witness_shaped (enc:=enc) (C:=Tryz.checked) (os:=os) (X:=fun w _=>laidMetH Tryz.prog Rows.bindeclIsCanonicalRow.laid w) false (World.laidAll Tryz.prog os Rows.bindeclIsCanonicalRow.laid) #[.slice none 0 0,.slice none 0 0] 8 (World.laidAll_os _ _ _) (World.shaped_of_ZipB (by kernel_rfl) (by kernel_rfl)) (by kernel_rfl) (by kernel_rfl) (by kernel_rfl)
    (by rw [MakeChecks.laidMetH_plain _ _ _ (by kernel_rfl)];exact laidMet_laidAll _ (by kernel_rfl) (by kernel_rfl))) ?_
 intro W base args ds gs before hval0 hW _ hwt hL _
 have hval:∀(j:Nat) t v,Tryz.f6.params[j]?=some t→args[j]?=some v→Value.okWide Tryz.prog W .any base t v:=hval0
 have hW':=hW
 obtain ⟨p,q,hA0,hV,rfl,hfz,hnd⟩:=hW
 have hA:DataW.TrodAll enc Tryz.prog W 0 (fun _=>true) true Tryz.f6.params.toList args.toList ds p:=hA0
 rw [Tryz.params6] at hA hval
 obtain ⟨v0,v1,d0,d1,p0,p1,rfl,rfl,rfl,h0,h1⟩:=trodAll_two hA
 obtain ⟨rfl,rfl⟩:=trodVars_none hV
 obtain ⟨A0,c0,xs0,rfl,hs0⟩:=xIQ (hval 0 _ v0 rfl rfl) h0
 obtain ⟨A1,c1,xs1,rfl,hs1⟩:=wC (hval 1 _ v1 rfl rfl) h1
 clear hA0 hval0
 refine (xIR xs0 A0 c0 xs1 A1 c1 W (xEY hL) hs0 hs1).mono fun e W' ⟨he,hb⟩=>?_
 exact ⟨_,he,xDB Tryz.laidOut rfl (by kernel_rfl) Tryz.underlying4 rfl (by rw [Tryz.params6];intro t ht;simp at ht;rcases ht with rfl | rfl <;> exact ⟨by kernel_rfl,of_decide_eq_true (by kernel_rfl)⟩) hW' hb⟩
theorem xHS:Rows.BindeclIsCanonicalSaid:=
 OpenClaim.holds_of_wide 6 Tryz.f6 rfl rfl rfl rfl rfl rfl rfl ⟨rfl,rfl,rfl,rfl,rfl⟩ rfl rfl rfl rfl rfl (by kernel_rfl) Tryz.func6 (by kernel_rfl)
  (of_decide_eq_true (by kernel_rfl)) (by unfold Func.isWrapper;first | (rw [aY (by decide +kernel)];kernel_rfl) | (rw [aX (by decide +kernel)];exact ⟨rfl,rfl⟩))
  (fun os started H enc _=>xHR os started H enc)
theorem BindeclIsCanonical_holds:Rows.BindeclIsCanonicalCardSaid:=
 Claim7.holds_tied_plain_at .later [] [.data, .widerDeep, .widerDeep, .pinned] true (true, "df92e3dffe42141494600ee8b20469a2441dd03061facf2bfbf3bc0513c4d676") false
  xHS (fun _ h=>by cases h) (by kernel_rfl) (fun _ h=>by cases h) bindeclIsCanonical_row_tie rfl ⟨rfl,rfl⟩ (by kernel_rfl) rfl
  (fun f fn hf hfn=>by
    obtain rfl:f=6:=Option.some.inj ((show Tryz.prog.funcNamed Rows.bindeclIsCanonicalRow.func=some 6 by kernel_rfl).symm.trans hf) |>.symm
    obtain rfl:fn=Tryz.f6:=(Option.some.inj (Tryz.func6.symm.trans hfn)).symm
    exact ⟨by kernel_rfl,fun j t ht=>by
     rw [Tryz.params6] at ht
     have hm:t∈[34,22]:=by simpa using Array.mem_of_getElem? ht
     have hall:([34,22].all fun u=> !Tryz.prog.wantsStandIn u)=true:=by kernel_rfl
     exact (show Tryz.prog.wantsStandIn t=false by simpa using List.all_eq_true.1 hall t hm)⟩)
  (by kernel_rfl)
end
end Go.Proofs.YtbnljlpefpllcaaGreatDoor
