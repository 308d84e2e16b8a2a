/-
  Parts of the proof: N1 N2 N4 E7 E8 E9 EA ELI ELS ELP ELL.
-/
import Derived.Test.YtbnljlpefpllcaaGreatDoorME0
import Derived.Test.YtbnljlpefpllcaaGreatDoorME7
import Derived.Test.YtbnljlpefpllcaaGreatDoorME5
import Derived.Test.YtbnljlpefpllcaaGreatDoorME15
import Derived.Test.YtbnljlpefpllcaaGreatDoorSg
import Derived.Sort.OwnSorted
namespace Go.Proofs.YtbnljlpefpllcaaGreatDoor
set_option maxRecDepth 100000
set_option maxHeartbeats 16000000
section
open Go Go.RowKit
theorem kG (s x:ByteArray):Op.bytesLess s.toList x.toList=decide (bl s<bl x):=by
 rw [Go.Proofs.bytesLess_eq,Lib.toList_data,Lib.toList_data];rfl
theorem xEG (s x:ByteArray):(s.toList == x.toList)=decide (s=x):=by
 rw [Lib.toList_data,Lib.toList_data]
 by_cases h:s=x
 ·subst h;simp
 ·rw [beq_false_of_ne (fun e=>h (rD e))]
  simp [h]
theorem kC (w:World) (x:ByteArray):∀j u,[Value.string x][j]?=some u→(w.alloc (.cells #[.string x] 9)).cell? ((⟨w.heap.size,0,none⟩:Addr).add j)=some u:=fun j u hj=>by
 rw [add0]
 exact dZ w [.string x] 9 j u hj
theorem kB (x:ByteArray):∀u∈[Value.string x],u.oneCell'=true:=fun u hu=>by simp at hu;subst hu;rfl
theorem lL (s x:ByteArray) (r:List ByteArray):insB s (x :: r)=if bl s<bl x then s :: x :: r else if s=x then x :: r else x :: insB s r:=rfl
theorem rS (l:List ByteArray) (s:ByteArray) (A:Option Addr) (c:Nat) (w:World) (hs:Slc 1 RN w A c l) (hl:l.length≤1000000):
 Calls Tryz.prog 65 #[.slice A l.length c,.string s] w fun e' w'=>∃A' c',e' = .returned (.slice A' (insB s l).length c')∧w'.ownsRow w.heap.size 9 1 (.slice A' (insB s l).length c') (insB s l).length ((insB s l).map Value.string)∧Below w.heap.size w w':=by
 obtain ⟨iS,iS0,iS1,iS2,iS3⟩:=info_parts oP
 have hle:=hs.le
 have hbg:=hs.big
 have HS:=aF hs
 obtain ⟨Q,hQ⟩:∃Q,insB s l=Q:=⟨_,rfl⟩
 rw [hQ]
 have HQ:=aF hQ
 clear hs hQ
 go_enter Tryz.func65,Tryz.ntmps65
 go_wp2_with fail
 go_loopw [5,6,7] (fun v d i wr=>∃(k n:Nat) (acc:List ByteArray) (dn:Bool),k≤l.length∧i = .int .i64 k∧d = .bool dn∧acc.length=n∧(dn=false→n≤k)∧n≤k+1∧Hid (wr.ownsRow w.heap.size 9 1 v n (acc.map Value.string))∧Hid (Below w.heap.size w wr)∧Hid (Q=acc ++ (if dn=true then l.drop k else insB s (l.drop k)))) (fun _ _ i _=>l.length - (intOf i).toNat)
 case atStart=>exact ⟨0,0,[],false,by omega,rfl,rfl,rfl,by omega,by omega,aF (World.ownsRow_nil _ _ _ _),aF (aV _ _),aF (by rw [← HQ.out];rfl)⟩
 case round=>
  obtain ⟨k,n,acc,dn,hk,rfl,rfl,hal,hnf,hnk,HO,HB,HR⟩:=hrel
  have HNF:=aF hnf
  clear hnf
  have hsz:=HB.out.size
  by_cases hlt:k<l.length
  ·have hd:l.drop k=l[k] :: l.drop (k+1):=cI hlt
   obtain ⟨b,o,rfl,hb,y⟩:=HS.out.sl.at_ hlt
   have HX:Hid (∀X,Below w.heap.size w X→X.cell? ⟨b,o+k,none⟩=some (.string l[k])):=aF (fun X hX=>by
    have h:=RN.keeps w X w.heap.size w.heap.size b _ _ (aW _) hb hX y
    simpa [RN] using h)
   rw [hd] at HR
   generalize l[k]=x at *
   have p0:=HX.out wr HB.out
   clear y hd
   have fin:∀(dn':Bool) (acc':List ByteArray),Hid (Q=acc ++ (if dn=true then x :: l.drop (k+1) else insB s (x :: l.drop (k+1))))→acc ++ (if dn=true then x :: l.drop (k+1) else insB s (x :: l.drop (k+1)))=acc' ++ (if dn'=true then l.drop (k+1) else insB s (l.drop (k+1)))→Hid (Q=acc' ++ (if dn'=true then l.drop (k+1) else insB s (l.drop (k+1)))):=fun _ _ h1 h2=>aF (h1.out.trans h2)
   have FIN:=aF fin
   clear fin
   cases dn with
   | true=>
     have hown2:=HO.out.alloc (.cells #[.string x] 9)
     go_wp2_with (at_builtin;refine wpList_append_own _ rfl _ _ 22 rfl w.heap.size 9 iS (.string { data:= #[] }) 1 16 Tryz.underlying22 iS0 iS1 iS2 iS3 rfl (by decide) _ _ _ rfl hown2 ⟨wr.heap.size,0,none⟩ 1 1 [.string x] rfl rfl (kC _ _) (kB _) (by unfold maxLen;omega) (by omega) (by simp;omega) ?_)
     intro v' w2 hown' hgrow _
     have HO2:Hid (w2.ownsRow w.heap.size 9 1 v' (n+1) ((acc ++ [x]).map Value.string)):=aF (by rw [bS];exact hown')
     have HB2:Hid (Below w.heap.size w w2):=aF ((HB.out.alloc hsz _).grown hgrow (by simp;omega) (fun g hg=>(hown2.lt g hg).1))
     clear hown' hgrow hown2
     go_wp2_with fail
     go_roundw
     case rel=>exact ⟨k+1,n+1,acc ++ [x],true,by omega,by go_num,rfl,by simp [hal],(by first | (intro h;cases h;done) | (intro _;have:=HNF.out (by simp);omega)),by omega,HO2,HB2,FIN.out true _ HR (by simp)⟩
     case measure=>simp [intOf];omega
   | false=>
     rcases lt_tri (bl s) (bl x) with h1 | h1 | h1
     ·have e1:Op.bytesLess s.toList x.toList=true:=by rw [kG];simp [h1]
      have hI:∀r,insB s (x :: r)=s :: x :: r:=fun r=>by rw [lL,aY h1]
      have HRR:=FIN.out true (acc ++ [s] ++ [x]) HR (by simp [hI])
      clear hI
      clear h1 HR FIN
      have hown2:=HO.out.alloc (.cells #[.string s] 9)
      go_wp2_with (at_builtin;refine wpList_append_own _ rfl _ _ 22 rfl w.heap.size 9 iS (.string { data:= #[] }) 1 16 Tryz.underlying22 iS0 iS1 iS2 iS3 rfl (by decide) _ _ _ rfl hown2 ⟨wr.heap.size,0,none⟩ 1 1 [.string s] rfl rfl (kC _ _) (kB _) (by unfold maxLen;omega) (by omega) (by simp;omega) ?_)
      intro v' w2 hown' hgrow _
      have HO2:Hid (w2.ownsRow w.heap.size 9 1 v' (n+1) ((acc ++ [s]).map Value.string)):=aF (by rw [bS];exact hown')
      have hB2:Below w.heap.size w w2:=(HB.out.alloc hsz _).grown hgrow (by simp;omega) (fun g hg=>(hown2.lt g hg).1)
      have hsz2:=hB2.size
      have p1:=HX.out w2 hB2
      have HB2:=aF hB2
      clear hown' hgrow hown2 hB2
      have hown3:=HO2.out.alloc (.cells #[.string x] 9)
      go_wp2_with (at_builtin;refine wpList_append_own _ rfl _ _ 22 rfl w.heap.size 9 iS (.string { data:= #[] }) 1 16 Tryz.underlying22 iS0 iS1 iS2 iS3 rfl (by decide) _ _ _ rfl hown3 ⟨w2.heap.size,0,none⟩ 1 1 [.string x] rfl rfl (kC _ _) (kB _) (by unfold maxLen;omega) (by omega) (by simp;omega) ?_)
      intro v'' w3 hown' hgrow _
      have HO3:Hid (w3.ownsRow w.heap.size 9 1 v'' (n+1+1) ((acc ++ [s] ++ [x]).map Value.string)):=aF (by have h:=hown';simp only [bS,cK,cM,bK,List.cons_append,List.nil_append] at h ⊢;exact h)
      have HB3:Hid (Below w.heap.size w w3):=aF ((HB2.out.alloc hsz2 _).grown hgrow (by simp;omega) (fun g hg=>(hown3.lt g hg).1))
      clear hown' hgrow hown3
      go_wp2_with fail
      go_roundw
      case rel=>exact ⟨k+1,n+1+1,acc ++ [s] ++ [x],true,by omega,by go_num,rfl,by simp [hal],(by intro h;cases h),(by have:=HNF.out (by simp);omega),HO3,HB3,HRR⟩
      case measure=>simp [intOf];omega
     ·have hsx:s=x:=xEK h1
      have hI:∀r,insB s (x :: r)=x :: r:=fun r=>by rw [lL,aX (by rw [h1];exact iD _),aY hsx]
      have HRR:=FIN.out true (acc ++ [x]) HR (by simp [hI])
      clear hI
      have e1:Op.bytesLess x.toList x.toList=false:=by rw [kG];simp [iD]
      subst hsx
      clear h1 HR FIN
      have hown2:=HO.out.alloc (.cells #[.string s] 9)
      go_wp2_with (at_builtin;refine wpList_append_own _ rfl _ _ 22 rfl w.heap.size 9 iS (.string { data:= #[] }) 1 16 Tryz.underlying22 iS0 iS1 iS2 iS3 rfl (by decide) _ _ _ rfl hown2 ⟨wr.heap.size,0,none⟩ 1 1 [.string s] rfl rfl (kC _ _) (kB _) (by unfold maxLen;omega) (by omega) (by simp;omega) ?_)
      intro v' w2 hown' hgrow _
      have HO2:Hid (w2.ownsRow w.heap.size 9 1 v' (n+1) ((acc ++ [s]).map Value.string)):=aF (by rw [bS];exact hown')
      have HB2:Hid (Below w.heap.size w w2):=aF ((HB.out.alloc hsz _).grown hgrow (by simp;omega) (fun g hg=>(hown2.lt g hg).1))
      clear hown' hgrow hown2
      go_wp2_with fail
      go_roundw
      case rel=>exact ⟨k+1,n+1,acc ++ [s],true,by omega,by go_num,rfl,by simp [hal],(by first | (intro h;cases h;done) | (intro _;have:=HNF.out (by simp);omega)),by omega,HO2,HB2,HRR⟩
      case measure=>simp [intOf];omega
     ·have e1:Op.bytesLess s.toList x.toList=false:=by rw [kG];simp only [decide_eq_false_iff_not];exact fun h=>iD _ (lt_trans' h h1)
      have hne:¬s=x:=fun e=>by subst e;exact iD _ h1
      have e2:(s.toList == x.toList)=false:=by rw [xEG];simp [hne]
      have hI:∀r,insB s (x :: r)=x :: insB s r:=fun r=>by rw [lL,aX (fun h=>iD _ (lt_trans' h h1)),aX hne]
      have HRR:=FIN.out false (acc ++ [x]) HR (by simp [hI])
      clear hI
      clear h1 HR FIN hne
      have hown2:=HO.out.alloc (.cells #[.string x] 9)
      go_wp2_with (at_builtin;refine wpList_append_own _ rfl _ _ 22 rfl w.heap.size 9 iS (.string { data:= #[] }) 1 16 Tryz.underlying22 iS0 iS1 iS2 iS3 rfl (by decide) _ _ _ rfl hown2 ⟨wr.heap.size,0,none⟩ 1 1 [.string x] rfl rfl (kC _ _) (kB _) (by unfold maxLen;omega) (by omega) (by simp;omega) ?_)
      intro v' w2 hown' hgrow _
      have HO2:Hid (w2.ownsRow w.heap.size 9 1 v' (n+1) ((acc ++ [x]).map Value.string)):=aF (by rw [bS];exact hown')
      have HB2:Hid (Below w.heap.size w w2):=aF ((HB.out.alloc hsz _).grown hgrow (by simp;omega) (fun g hg=>(hown2.lt g hg).1))
      clear hown' hgrow hown2
      go_wp2_with fail
      go_roundw
      case rel=>exact ⟨k+1,n+1,acc ++ [x],false,by omega,by go_num,rfl,by simp [hal],(by first | (intro h;cases h;done) | (intro _;have:=HNF.out (by simp);omega)),by omega,HO2,HB2,HRR⟩
      case measure=>simp [intOf];omega
  ·have hke:k=l.length:=by omega
   have hd:l.drop k=[]:=by rw [hke,List.drop_length]
   cases dn with
   | true=>
     have hQ2:Q=acc:=by rw [HR.out,aY rfl,hd,List.append_nil]
     obtain ⟨A',c',hv⟩:=iL HO.out
     subst hv
     have HQ2:=aF hQ2
     clear hke hd hQ2
     go_wp2_with fail
     go_ret
     rw [HQ2.out,hal]
     exact ⟨A',c',rfl,HO.out,HB.out⟩
   | false=>
     have hQ2:Q=acc ++ [s]:=by rw [HR.out,aX (by simp),hd];rfl
     have HQ2:=aF hQ2
     clear hke hd hQ2
     have hown2:=HO.out.alloc (.cells #[.string s] 9)
     go_wp2_with (at_builtin;refine wpList_append_own _ rfl _ _ 22 rfl w.heap.size 9 iS (.string { data:= #[] }) 1 16 Tryz.underlying22 iS0 iS1 iS2 iS3 rfl (by decide) _ _ _ rfl hown2 ⟨wr.heap.size,0,none⟩ 1 1 [.string s] rfl rfl (kC _ _) (kB _) (by unfold maxLen;omega) (by omega) (by simp;omega) ?_)
     intro v' w2 hown' hgrow _
     have HO2:Hid (w2.ownsRow w.heap.size 9 1 v' (n+1) ((acc ++ [s]).map Value.string)):=aF (by rw [bS];exact hown')
     have HB2:Hid (Below w.heap.size w w2):=aF ((HB.out.alloc hsz _).grown hgrow (by simp;omega) (fun g hg=>(hown2.lt g hg).1))
     clear hown' hgrow hown2
     obtain ⟨A',c',hv⟩:=iL HO2.out
     subst hv
     go_wp2_with fail
     go_ret
     have hl2:(acc ++ [s]).length=n+1:=by simp [hal]
     rw [HQ2.out,hl2]
     exact ⟨A',c',rfl,HO2.out,HB2.out⟩
theorem pL:∀(l acc:List ByteArray) (s:ByteArray),tabB acc (l ++ [s])=insB s (tabB acc l)
 | [],_,_=>rfl
 | x :: r,acc,s=>by rw [List.cons_append,tabB,pL r];rfl
theorem xCD (xs:List ByteArray) (A:Option Addr) (c:Nat) (w:World) (hs:Slc 1 RN w A c xs) (hl:xs.length≤100000) (hz:∀s∈xs,s.size≤1000000):
 Calls Tryz.prog 21 #[.slice A xs.length c] w fun e' w'=>Below w.heap.size w w'∧((∀s∈xs,isIdent s=true)→∃A' c',e' = .returned (.tuple #[.slice A' (tabB [] xs).length c',.int .i64 0])∧Slc 1 RN w' A' c' (tabB [] xs)∧(∀a,A'=some a→a.block<w'.heap.size))∧(¬(∀s∈xs,isIdent s=true)→e' = .returned (.tuple #[.slice none 0 0,.int .i64 12])):=by
 have hle:=hs.le
 have hbg:=hs.big
 have HS:=aF hs
 have HZ:=aF hz
 clear hs hz
 go_enter Tryz.func21,Tryz.ntmps21
 go_wp2_with fail
 go_loopw [4,5] (fun v i wr=>∃(k:Nat) (B:Option Addr) (d n:Nat),k≤xs.length∧i = .int .i64 k∧v = .slice B n d∧n=(tabB [] (xs.take k)).length∧n≤k∧Hid (Slc 1 RN wr B d (tabB [] (xs.take k))∧(∀a,B=some a→a.block<wr.heap.size))∧Hid (Below w.heap.size w wr)∧Hid (∀s∈xs.take k,isIdent s=true)) (fun _ i _=>xs.length - (intOf i).toNat)
 case atStart=>exact ⟨0,none,0,0,by omega,rfl,rfl,rfl,by omega,aF ⟨⟨Sl.nil,by simp [tabB],by simp⟩,fun a h=>by cases h⟩,aF (aV _ _),aF (by simp)⟩
 case round=>
  obtain ⟨k,B,d,n,hk,rfl,rfl,hn,hnk,HT,HB,HI⟩:=hrel
  by_cases hlt:k<xs.length
  ·obtain ⟨b,o,rfl,hb,y⟩:=HS.out.sl.at_ hlt
   have HX:Hid (∀X,Below w.heap.size w X→X.cell? ⟨b,o+k,none⟩=some (.string xs[k])):=aF (fun X hX=>by
    have h:=RN.keeps w X w.heap.size w.heap.size b _ _ (aW _) hb hX y
    simpa [RN] using h)
   have HTK:Hid (xs.take (k+1)=xs.take k ++ [xs[k]]):=aF (bE hlt)
   have HM:Hid (xs[k]∈xs):=aF (bM hlt)
   generalize xs[k]=x at *
   have HID:=aF (fY x wr (by have:=HZ.out x HM.out;omega))
   have HN:=aF hn
   have HINS:=aF (rS (tabB [] (xs.take k)) x B d wr HT.out.1 (by omega))
   rw [← hn] at HINS
   have p0:=HX.out wr HB.out
   clear y hn
   by_cases hi:isIdent x=true
   ·rw [hi] at HID
    have HII:Hid (∀s∈xs.take (k+1),isIdent s=true):=aF (fun s hs=>by
     rw [HTK.out] at hs
     rcases List.mem_append.1 hs with h | h
     ·exact HI.out s h
     ·rw [bR] at h;rw [h];exact hi)
    have HTS:Hid (tabB [] (xs.take (k+1))=insB x (tabB [] (xs.take k))):=aF (by rw [HTK.out,pL])
    have hil:=oO x (tabB [] (xs.take k))
    rw [← HN.out] at hil
    clear hi
    go_wp2_with (first
     | (go_at_call 65;refine HINS.out.mono ?_;rintro e' w2 ⟨A',c',rfl,hown,hb2⟩;have HO:=aF hown;have HB2:=aF hb2;clear hown hb2)
     | (go_at_call 67;refine HID.out.mono ?_;rintro e' w1 ⟨rfl,hw⟩;obtain rfl:=hw.symm))
    go_roundw
    case rel=>
     refine ⟨k+1,A',c',_,by omega,by go_num,rfl,by rw [HTS.out],by omega,aF ?_,aF (HB.out.trans (HB2.out.mono HB.out.size)),HII⟩
     obtain ⟨A2,c2,hv,h1,h2⟩:=eW (R:=RN) (fun w B b o x h=>h) HO.out rfl
     injection hv with hv1 _ hv2
     subst hv1 hv2
     rw [HTS.out]
     exact ⟨h1,fun a ha=>(h2 a ha).2⟩
    case measure=>simp [intOf];omega
   ·have hif:isIdent x=false:=by simpa using hi
    rw [hif] at HID
    have HNO:Hid (¬∀s∈xs,isIdent s=true):=aF (fun h=>hi (h x HM.out))
    clear hi hif
    go_wp2_with (go_at_call 67;refine HID.out.mono ?_;rintro e' w1 ⟨rfl,hw⟩;obtain rfl:=hw.symm)
    refine bodyPost_ret (v:= .tuple #[.slice none 0 0,.int .i64 12]) (by simp [results,Tryz.results21,go_sem] <;> rfl) rfl ?_
    exact ⟨HB.out,fun h=>absurd h HNO.out,fun _=>rfl⟩
  ·have hke:k=xs.length:=by omega
   have HK:=aF hke
   have HN:=aF hn
   clear hke hn
   go_wp2_with fail
   refine bodyPost_ret (v:= .tuple #[.slice B n d,.int .i64 0]) (by simp [results,Tryz.results21,go_sem] <;> rfl) rfl ?_
   have ht:xs.take k=xs:=by rw [HK.out,bZ]
   have hn:=HN.out
   have h1:=HT.out
   have h2:=HI.out
   rw [ht] at h1 h2 hn
   subst hn
   exact ⟨HB.out,fun _=>⟨B,d,rfl,h1.1,h1.2⟩,fun h=>absurd h2 h⟩
theorem xHM (xs:List ByteArray):(xs.map bl).map encStr=xs.map Value.string:=by
 rw [List.map_map]
 refine List.map_congr_left (fun x _=>?_)
 show Value.string (ba (bl x))=_
 rw [ba_bl]
theorem xHN (ls:List (List UInt8)):ls.map encStr=(ls.map ba).map Value.string:=by
 rw [List.map_map];rfl
theorem sV (zs:List (List UInt8)):(Lib.compact zs).length≤zs.length:=by
 have key:∀m,(Lib.compactUpTo zs.toArray m).length≤m:=by
  intro m
  induction m with
  | zero=>simp [Lib.compactUpTo]
  | succ m ih=>
    rw [Lib.compactUpTo_succ,aZ]
    split
    ·simp;omega
    ·simp;omega
 exact key zs.length
theorem kZ (xs:List ByteArray) (A:Option Addr) (c:Nat) (w:World) (hs:Slc 1 RN w A c xs) (hl:xs.length≤100000):
 Calls Tryz.prog 22 #[.slice A xs.length c] w fun e' w'=>Below w.heap.size w w'∧((∀s∈xs,isIdent s=true)→∃t B d,e' = .returned (.tuple #[.pointer (some ⟨t,0,none⟩),.int .i64 0])∧TabAt w' t B d (tabB [] xs))∧(¬(∀s∈xs,isIdent s=true)→e' = .returned (.tuple #[.pointer none,.int .i64 12])):=by
 have hle:=hs.le
 have hbg:=hs.big
 have HS:=aF hs
 clear hs
 go_enter Tryz.func22,Tryz.ntmps22
 go_wp2_with fail
 go_loopw [9] (fun i wr=>∃k:Nat,k≤xs.length∧i = .int .i64 k∧Hid (Below w.heap.size w wr)∧Hid (∀s∈xs.take k,isIdent s=true)) (fun i _=>xs.length - (intOf i).toNat)
 case atStart=>exact ⟨0,by omega,rfl,aF (aV _ _),aF (by simp)⟩
 case round=>
  obtain ⟨k,hk,rfl,HB,HI⟩:=hrel
  by_cases hlt:k<xs.length
  ·obtain ⟨b,o,rfl,hb,y⟩:=HS.out.sl.at_ hlt
   have HX:Hid (∀X,Below w.heap.size w X→X.cell? ⟨b,o+k,none⟩=some (.string xs[k])):=aF (fun X hX=>by
    have h:=RN.keeps w X w.heap.size w.heap.size b _ _ (aW _) hb hX y
    simpa [RN] using h)
   have HTK:Hid (xs.take (k+1)=xs.take k ++ [xs[k]]):=aF (bE hlt)
   have HM:Hid (xs[k]∈xs):=aF (bM hlt)
   generalize xs[k]=x at *
   have HID:=aF (eX x wr)
   have p0:=HX.out wr HB.out
   clear y
   by_cases hi:isIdent x=true
   ·rw [hi] at HID
    have HII:Hid (∀s∈xs.take (k+1),isIdent s=true):=aF (fun s hs=>by
     rw [HTK.out] at hs
     rcases List.mem_append.1 hs with h | h
     ·exact HI.out s h
     ·rw [bR] at h;rw [h];exact hi)
    clear hi
    go_wp2_with (go_at_call 68;refine HID.out.mono ?_;rintro e' w1 ⟨rfl,hb1⟩;have HB1:=aF hb1;clear hb1)
    go_roundw
    case rel=>exact ⟨k+1,by omega,by go_num,aF (HB.out.trans (HB1.out.mono HB.out.size)),HII⟩
    case measure=>simp [intOf];omega
   ·have hif:isIdent x=false:=by simpa using hi
    rw [hif] at HID
    have HNO:Hid (¬∀s∈xs,isIdent s=true):=aF (fun h=>hi (h x HM.out))
    clear hi hif
    go_wp2_with (go_at_call 68;refine HID.out.mono ?_;rintro e' w1 ⟨rfl,hb1⟩;have HB1:=aF hb1;clear hb1)
    refine bodyPost_ret (v:= .tuple #[.pointer none,.int .i64 12]) (by simp [results,Tryz.results22,go_sem] <;> rfl) rfl ?_
    exact ⟨HB.out.trans (HB1.out.mono HB.out.size),fun h=>absurd h HNO.out,fun _=>rfl⟩
  ·have hall:∀s∈xs,isIdent s=true:=by
    have h:=HI.out
    rwa [show k=xs.length by omega,bZ] at h
   have HALL:=aF hall
   clear hall
   by_cases h0:xs.length=0
   ·have hx:xs=[]:=List.length_eq_zero_iff.1 h0
    subst hx
    have HC:Hid (Calls Tryz.prog 69 #[.slice A 0 c] wr fun e w'=>∃a d,e = .returned (.slice a 0 d)∧(∀x,a=some x→x.block<w'.heap.size)∧d≤9223372036854775807∧Below wr.heap.size wr w'):=aF (by
     cases A with
     | none=>exact (Tryz.slices_Clone_string_nil 0 c wr).mono (fun e w' h=>⟨none,0,h.1,(fun x hx=>by cases hx),by omega,by rw [h.2];exact aV _ _⟩)
     | some a=>
       refine (Tryz.slices_Clone_string_zero a c wr).mono ?_
       rintro e w' ⟨v',rfl,hown,_,hb⟩
       obtain ⟨A',c',rfl,h1,h2⟩:=eW (R:=RN) (enc:=Value.string) (xs:=[]) (fun w B b o x h=>h) hown rfl
       exact ⟨A',c',rfl,fun x hx=>(h2 x hx).2,h1.big,hb⟩)
    clear h0
    go_wp2_with fail
    go_at_call 69
    refine HC.out.mono ?_
    rintro e' w1 ⟨a,d,rfl,ha,hd,hb1⟩
    have HA:=aF ha
    have HB1:=aF hb1
    clear ha hb1
    go_wp2_with (first
     | (go_at_call 71;refine (Tryz.slices_Compact_string_empty _ _ _).mono ?_;rintro e' w3 ⟨rfl,hw⟩;obtain rfl:=hw.symm)
     | (go_at_call 70;refine (Tryz.slices_Sort_string_none _ _ _).mono ?_;rintro e' w3 ⟨rfl,hw⟩;obtain rfl:=hw.symm))
    refine bodyPost_ret (v:= .tuple #[.pointer (some ⟨w1.heap.size,0,none⟩),.int .i64 0]) (by simp [results,Tryz.results22,go_sem] <;> rfl) rfl ?_
    have hb2:=HB.out.trans (HB1.out.mono HB.out.size)
    exact ⟨hb2.alloc hb2.size _,fun _=>⟨_,a,d,rfl,⟨heap_alloc_new _ _,⟨Sl.nil,by simp [tabB],hd⟩,fun x hx=>by have:=HA.out x hx;simp;omega⟩⟩,fun h=>absurd HALL.out h⟩
   ·obtain ⟨b,o,rfl,hb,y⟩:=HS.out.sl.at_ (i:=0) (by omega)
    have HCC:Hid (∀j,j<xs.length→wr.cell? ⟨b,o+j,none⟩=some (.string (xs.getD j ByteArray.empty))):=aF (fun j hj=>by
     obtain ⟨b',o',he,hb',y'⟩:=(HS.out.keep RN.keeps (w':=wr) (by have:=HB.out;exact this)).sl.at_ hj
     injection he with he
     injection he with he1 he2
     subst he1 he2
     simpa [RN,List.getD,bB hj] using y')
    have HC:=aF (Tryz.slices_Clone_string b o xs.length c xs wr (aW _) (by omega) HCC.out)
    clear y
    go_wp2_with fail
    go_at_call 69
    refine HC.out.mono ?_
    rintro e' w1 ⟨v',rfl,hown,hnn,hb1⟩
    rw [bZ] at hown
    rcases hown.2 with ⟨h1,h2⟩ | ⟨g,cap,cur,rfl,hbase,hh,hnc,hcm,hcs,htk⟩
    ·exact absurd h2 h0
    have hold:=Go.holds_of_block (ss:=xs.map bl) hh (by rw [cF,xHM];simpa using htk)
    have HSO:=aF (Tryz.slices_Sort_string g 0 cap (xs.map bl) w1 hold (Array.getElem?_eq_some_iff.1 hh).1 (by rw [cF];omega))
    rw [cF] at HSO
    have HH:=aF hh
    have HB1:=aF hb1
    clear hown hnn hb1 hh htk hold
    go_wp2_with fail
    go_at_call 70
    refine HSO.out.mono ?_
    rintro e' w2 ⟨rfl,q,os,hw2⟩
    have hlen:((xs.map bl).mergeSort fun x y=>decide (x≤y)).length=xs.length:=by simp
    have hg2:=Go.grownBy_sorted (w:=w1) (g:=g) (n:=q) (os:=os) ((xs.map bl).mergeSort fun x y=>decide (x≤y)).toArray
    have ho2:=Go.ownsRow_sorted (w:=w1) (base:=wr.heap.size) (g:=g) (cap:=cap) (n:=q) (e:=9) (os:=os) (cur:=cur) (ss:=xs.map bl) (ts:=(xs.map bl).mergeSort fun x y=>decide (x≤y)) (by simp) hbase HH.out (by rw [cF];exact hnc) hcm hcs
    rw [← hw2] at hg2 ho2
    have HT:=aF (xL xs)
    have hcl:=sV ((xs.map bl).mergeSort fun x y=>decide (x≤y))
    generalize (xs.map bl).mergeSort (fun x y=>decide (x≤y))=zs at *
    rw [cF] at ho2
    rcases ho2.2 with ⟨h1,h2⟩ | ⟨g',cap',cur2,he,hbase2,hh2,hnc2,hcm2,hcs2,htk2⟩
    ·cases h1
    injection he with he1 _ he3
    injection he1 with he1
    injection he1 with he1
    subst he1 he3
    have hold2:=Go.holds_of_block (ss:=zs) hh2 (by rw [hlen];simpa using htk2)
    have HKO:=aF (Tryz.slices_Compact_string g 0 cap zs w2 hold2 (by omega) (by omega))
    rw [hlen] at HKO
    have HG2:=aF hg2
    have HH2:=aF hh2
    clear hw2 hg2 ho2 hh2 htk2 hold2
    go_wp2_with fail
    go_at_call 71
    refine HKO.out.mono ?_
    rintro e' w3 ⟨rfl,q2,hw3⟩
    have hl3:(Lib.compact zs ++ List.replicate (zs.length - (Lib.compact zs).length) []).length=zs.length:=by simp;omega
    have hg3:=Go.grownBy_sorted (w:=w2) (g:=g) (n:=q2) (os:= #[]) (Lib.compact zs ++ List.replicate (zs.length - (Lib.compact zs).length) []).toArray
    have ho3:=Go.ownsRow_sorted (w:=w2) (base:=wr.heap.size) (g:=g) (cap:=cap) (n:=q2) (e:=9) (os:= #[]) (cur:=cur2) (ss:=zs) (ts:=Lib.compact zs ++ List.replicate (zs.length - (Lib.compact zs).length) []) hl3 hbase2 HH2.out (by omega) hcm2 hcs2
    rw [hlen] at hg3 ho3
    rw [Go.Sort.grow_empty,← hw3] at hg3 ho3
    rw [xHN] at ho3
    obtain ⟨A',c',hv,hs3,hlt3⟩:=eW (R:=RN) (enc:=Value.string) (fun w B b o x h=>h) ho3 (by simp;omega)
    injection hv with hv1 _ hv2
    subst hv1 hv2
    have hB2:Below w.heap.size w w3:=by
     have h1:=HB.out.trans (HB1.out.mono HB.out.size)
     have h2:Below w.heap.size w w2:=⟨HG2.out.os.trans h1.os,HG2.out.tape.trans h1.tape,HG2.out.output.trans h1.output,bX h1.size HG2.out.size,fun j hj=>(HG2.out.block j (by have:=h1.size;omega) (by intro e;injection e with e;have:=HB.out.size;omega)).trans (h1.block j hj)⟩
     exact ⟨hg3.os.trans h2.os,hg3.tape.trans h2.tape,hg3.output.trans h2.output,bX h2.size hg3.size,fun j hj=>(hg3.block j (by have:=h2.size;omega) (by intro e;injection e with e;have:=HB.out.size;omega)).trans (h2.block j hj)⟩
    have hm:(tabB [] xs).length=(Lib.compact zs).length:=by rw [HT.out];simp
    have hslc:Slc 1 RN w3 (some ⟨g,0,none⟩) cap (tabB [] xs):=by
     refine ⟨?_,by omega,hs3.big⟩
     have h1:=hs3.sl.take (Lib.compact zs).length
     rwa [bS,List.take_append_of_le_length (by simp),List.take_of_length_le (by simp),← HT.out] at h1
    have HSL:=aF hslc
    have HB2:=aF hB2
    have hgl:=(hlt3 _ rfl).2
    have HM:=aF hm
    clear hw3 hg3 ho3 hs3 hB2 hslc hlt3 hm
    go_wp2_with fail
    refine bodyPost_ret (v:= .tuple #[.pointer (some ⟨w3.heap.size,0,none⟩),.int .i64 0]) (by simp [results,Tryz.results22,go_sem] <;> rfl) rfl ?_
    refine ⟨HB2.out.alloc HB2.out.size _,fun _=>⟨_,some ⟨g,0,none⟩,cap,rfl,⟨?_,HSL.out.keep RN.keeps ((aV _ _).alloc (aW _) _),fun x hx=>by injection hx with hx;subst hx;simp;omega⟩⟩,fun h=>absurd HALL.out h⟩
    rw [HM.out]
    exact heap_alloc_new _ _
def szN (s:ByteArray):Nat:=min s.size 9000
def sumN (l:List ByteArray):Nat:=(l.map (fun s=>1+szN s)).sum
theorem iV (l:List ByteArray) (s:ByteArray):sumN (l ++ [s])=sumN l+(1+szN s):=by simp [sumN]
theorem xBM (l r:List ByteArray):sumN (l ++ r)=sumN l+sumN r:=by simp [sumN]
theorem xN (s:ByteArray) (l:List ByteArray):sumN (s :: l)=1+szN s+sumN l:=by simp [sumN]
theorem xM (l:List ByteArray) (k:Nat):sumN (l.take k)≤sumN l:=by
 have h:=xBM (l.take k) (l.drop k)
 rw [cG] at h
 omega
def xDZ (xs:List ByteArray) (w:World) (e':Ending) (w':World):Prop:=
 Below w.heap.size w w'∧((e' = .returned (.tuple #[.pointer none,.slice none 0 0,.int .i64 0])∧(8000<sumN xs∨∃s∈xs,isIdent s=false))∨
  ((∀s∈xs,isIdent s=true)∧xs.length≤8000∧∃t B d T c,e' = .returned (.tuple #[.pointer (some ⟨t,0,none⟩),.slice T (tabB [] xs).length c,.int .i64 1])∧TabAt w' t B d (tabB [] xs)∧Slc 1 RN w' T c (tabB [] xs)∧(∀a,T=some a→a.block<w'.heap.size)))
theorem uY (xs:List ByteArray) (A:Option Addr) (c:Nat) (w:World) (hs:Slc 1 RN w A c xs):
 Calls Tryz.prog 8 #[.slice A xs.length c] w (xDZ xs w):=by
 have hle:=hs.le
 have hbg:=hs.big
 have HS:=aF hs
 clear hs
 go_enter Tryz.func8,Tryz.ntmps8
 go_wp2_with fail
 go_loopw [5,14] (fun v i wr=>∃(k m:Nat),k≤xs.length∧i = .int .i64 k∧v = .int .i64 m∧k≤m∧m≤8000∧wr=w∧Hid (∀s∈xs.take k,s.size≤8000)∧Hid (m=sumN (xs.take k))) (fun _ i _=>xs.length - (intOf i).toNat)
 case atStart=>exact ⟨0,0,by omega,rfl,rfl,by omega,by omega,rfl,aF (by simp),aF (by simp [sumN])⟩
 case round=>
  obtain ⟨k,m,hk,rfl,rfl,hkm,hm,rfl,HI,HM⟩:=hrel
  by_cases hlt:k<xs.length
  ·obtain ⟨b,o,rfl,hb,y⟩:=HS.out.sl.at_ hlt
   have HTK:Hid (xs.take (k+1)=xs.take k ++ [xs[k]]):=aF (bE hlt)
   have HTS:=aF (xM xs (k+1))
   generalize xs[k]=x at *
   have HM2:Hid (sumN (xs.take (k+1))=m+(1+szN x)):=aF (by rw [HTK.out,iV,← HM.out])
   have p0:wr.cell? ⟨b,o+k,none⟩=some (.string x):=by simpa [RN] using y
   clear y
   go_wp2_with fail
   ·refine bodyPost_ret (v:= .tuple #[.pointer none,.slice none 0 0,.int .i64 0]) (by simp [results,Tryz.results8,go_sem] <;> rfl) rfl ?_
    exact ⟨aV _ _,.inl ⟨rfl,.inl (by have h1:=HTS.out;have h2:=HM2.out;unfold szN at h2;omega)⟩⟩
   ·go_roundw
    case rel=>
     refine ⟨k+1,m+(1+min x.size 9000),by omega,by go_num,by rw [show min (x.size:Int) 9000=((min x.size 9000:Nat):Int) by omega];push_cast;rfl,by omega,by omega,by simp,aF (fun s hs=>?_),aF (by rw [HM2.out];rfl)⟩
     rw [HTK.out] at hs
     rcases List.mem_append.1 hs with h | h
     ·exact HI.out s h
     ·rw [bR] at h
      rw [h]
      omega
    case measure=>simp [intOf];omega
  ·have hke:k=xs.length:=by omega
   have hxl:xs.length≤8000:=by omega
   have hzz:∀s∈xs,s.size≤1000000:=fun s hs=>by
    have:=HI.out s (by rw [hke,bZ];exact hs)
    omega
   have HR:=aF (xCD xs A c wr HS.out (by omega) hzz)
   have HP:=aF (fun w1 (hb:Below wr.heap.size wr w1)=>kZ xs A c w1 (HS.out.keep RN.keeps hb) (by omega))
   clear hzz hke
   by_cases hall:∀s∈xs,isIdent s=true
   ·have HALL:=aF hall
    clear hall
    go_wp2_with fail
    go_at_call 21
    refine HR.out.mono ?_
    rintro e' w1 ⟨hb1,h1,_⟩
    obtain ⟨T,d,rfl,hs1,hT1⟩:=h1 HALL.out
    have HB1:=aF hb1
    have HS1:=aF hs1
    have HT1:=aF hT1
    clear hb1 hs1 hT1 h1
    go_wp2_with fail
    go_at_call 22
    refine (HP.out w1 HB1.out).mono ?_
    rintro e' w2 ⟨hb2,h2,_⟩
    obtain ⟨t,B,d2,rfl,ht⟩:=h2 HALL.out
    have HB2:=aF hb2
    have HT:=aF ht
    clear hb2 ht h2
    go_wp2_with fail
    refine bodyPost_ret (v:= .tuple #[.pointer (some ⟨t,0,none⟩),.slice T (tabB [] xs).length d,.int .i64 1]) (by simp [results,Tryz.results8,go_sem] <;> rfl) rfl ?_
    exact ⟨HB1.out.trans (HB2.out.mono HB1.out.size),.inr ⟨HALL.out,hxl,t,B,d2,T,d,rfl,HT.out,HS1.out.keep RN.keeps HB2.out,fun a ha=>bN (HT1.out a ha) HB2.out.size⟩⟩
   ·have HALL:=aF hall
    clear hall
    go_wp2_with fail
    go_at_call 21
    refine HR.out.mono ?_
    rintro e' w1 ⟨hb1,_,h1⟩
    obtain rfl:=h1 HALL.out
    have HB1:=aF hb1
    clear hb1 h1
    go_wp2_with fail
    go_at_call 22
    refine (HP.out w1 HB1.out).mono ?_
    rintro e' w2 ⟨hb2,_,h2⟩
    obtain rfl:=h2 HALL.out
    have HB2:=aF hb2
    clear hb2 h2
    go_wp2_with fail
    refine bodyPost_ret (v:= .tuple #[.pointer none,.slice none 0 0,.int .i64 0]) (by simp [results,Tryz.results8,go_sem] <;> rfl) rfl ?_
    exact ⟨HB1.out.trans (HB2.out.mono HB1.out.size),.inl ⟨rfl,.inr (by have h:=HALL.out;simp only [Classical.not_forall] at h;obtain ⟨s,hs,h⟩:=h;exact ⟨s,hs,by simpa using h⟩)⟩⟩
theorem xGD (x s:ByteArray) (bs:Nat) (w:World) (h:w.cell? ⟨bs,0,none⟩=some (.string s)):
 Calls Tryz.prog 135 #[.string x,.pointer (some ⟨bs,0,none⟩)] w fun e' w'=>e' = .returned (.bool (decide (bl x<bl s)))∧w'=w:=by
 have e1:Op.bytesLess x.toList s.toList=decide (bl x<bl s):=kG x s
 generalize decide (bl x<bl s)=q at *
 go_enter Tryz.func135,Tryz.ntmps135
 go_wp2_with fail
 go_ret
 exact ⟨rfl,rfl⟩
theorem xFY (tbl:List ByteArray) (T:Option Addr) (c i b3 b2 bs:Nat) (s:ByteArray) (w:World) (hs:Slc 1 RN w T c tbl) (hi:i<tbl.length) (h3:w.cell? ⟨b3,0,none⟩=some (.func (.func 135) #[] #[.pointer (some ⟨bs,0,none⟩)])) (h2:w.cell? ⟨b2,0,none⟩=some (.slice T tbl.length c)) (h1:w.cell? ⟨bs,0,none⟩=some (.string s)):
 Calls Tryz.prog 186 #[.int .i64 i,.pointer (some ⟨b3,0,none⟩),.pointer (some ⟨b2,0,none⟩)] w fun e' w'=>e' = .returned (.bool (!decide (bl tbl[i]<bl s)))∧Below w.heap.size w w':=by
 have hle:=hs.le
 have hbg:=hs.big
 obtain ⟨b,o,rfl,hb,y⟩:=hs.sl.at_ hi
 generalize tbl[i]=x at *
 have p0:w.cell? ⟨b,o+i,none⟩=some (.string x):=by simpa [RN] using y
 have HL:=aF (xGD x s bs w.drew h1)
 generalize decide (bl x<bl s)=q at *
 clear y hs
 go_enter Tryz.func186,Tryz.ntmps186
 go_wp2_with fail
 go_still_tail 5,(by kernel_rfl)
 change wpList _ _ _ _ _ w.drew
 go_wp2_with (go_at_call 135;refine HL.out.mono ?_;rintro e' w3 ⟨rfl,hw⟩;obtain rfl:=hw.symm)
 go_ret
 exact ⟨rfl,(aV _ w).drew⟩
theorem sA (n:Nat) (p:Nat→Bool) (lb:Array Value) (w:World) (hn:n≤4611686018427387904) (hmono:∀a b,a≤b→b<n→p a=true→p b=true)
 (hf:∀X,Below w.heap.size w X→∀i,i<n→Calls Tryz.prog 186 (#[.int .i64 i] ++ lb) X fun e' X'=>e' = .returned (.bool (p i))∧Below X.heap.size X X'):
 Calls Tryz.prog 185 #[.int .i64 n,.func (.func 186) #[] lb] w fun e' w'=>∃m:Nat,m≤n∧e' = .returned (.int .i64 m)∧(∀t,t<m→p t=false)∧(∀t,m≤t→t<n→p t=true)∧Below w.heap.size w w':=by
 have HF:=aF hf
 have HM:=aF hmono
 clear hf hmono
 go_enter Tryz.func185,Tryz.ntmps185
 go_wp2_with fail
 go_loopw [5,6] (fun u v wr=>∃lo hi:Nat,u = .int .i64 lo∧v = .int .i64 hi∧lo≤hi∧hi≤n∧Hid ((∀t,t<lo→p t=false)∧(∀t,hi≤t→t<n→p t=true))∧Hid (Below w.heap.size w wr)) (fun u v _=>(intOf v).toNat - (intOf u).toNat)
 case atStart=>exact ⟨0,n,rfl,rfl,by omega,by omega,aF ⟨fun t h=>by omega,fun t h1 h2=>by omega⟩,aF (aV _ _)⟩
 case round=>
  obtain ⟨lo,hi,rfl,rfl,hlh,hhn,HI,HB⟩:=hrel
  by_cases hlt:lo<hi
  ·obtain ⟨md,hmd⟩:∃md,(lo+hi) / 2=md:=⟨_,rfl⟩
   have HC:=aF (HF.out _ HB.out md (by omega))
   have h1:lo≤md:=by omega
   have h2:md<hi:=by omega
   have e1:((lo:Int)+(hi:Int)) / 2=(md:Int):=by omega
   clear hmd
   cases hp:p md with
   | true=>
     rw [hp] at HC
     have HP:=aF hp
     clear hp
     go_wp2_with (go_at_call 186;refine HC.out.mono ?_;rintro e' w3 ⟨rfl,hb3⟩;have HB3:=aF hb3;clear hb3)
     go_roundw
     case rel=>exact ⟨lo,md,rfl,by first | rfl | rw [e1],by omega,by omega,aF ⟨HI.out.1,fun t ht1 ht2=>HM.out md t ht1 ht2 HP.out⟩,aF (HB.out.trans (HB3.out.mono HB.out.size))⟩
     case measure=>simp [intOf];omega
   | false=>
     rw [hp] at HC
     have HP:=aF hp
     clear hp
     go_wp2_with (go_at_call 186;refine HC.out.mono ?_;rintro e' w3 ⟨rfl,hb3⟩;have HB3:=aF hb3;clear hb3)
     go_roundw
     case rel=>
      exact ⟨md+1,hi,by go_num,rfl,by omega,by omega,aF ⟨fun t ht=>by
       cases hq:p t with
       | false=>rfl
       | true=>exact absurd (HM.out t md (by omega) (by omega) hq) (by rw [HP.out];simp),HI.out.2⟩,aF (HB.out.trans (HB3.out.mono HB.out.size))⟩
     case measure=>simp [intOf];omega
  ·have hle:lo=hi:=by omega
   have HLE:=aF hle
   clear hle
   go_wp2_with fail
   go_ret
   exact ⟨lo,by omega,rfl,HI.out.1,fun t h1 h2=>HI.out.2 t (by have:=HLE.out;omega) h2,HB.out⟩
theorem xCP (tbl:List ByteArray) (T:Option Addr) (c bs:Nat) (s:ByteArray) (w:World) (hs:Slc 1 RN w T c tbl) (h1:w.cell? ⟨bs,0,none⟩=some (.string s)) (hsort:tbl.Pairwise (fun a b=>bl a<bl b)) (hl:tbl.length≤1000000):
 Calls Tryz.prog 134 #[.slice T tbl.length c,.func (.func 135) #[] #[.pointer (some ⟨bs,0,none⟩)]] w fun e' w'=>∃m:Nat,m≤tbl.length∧e' = .returned (.int .i64 m)∧(∀t (h:t<tbl.length),t<m→bl tbl[t]<bl s)∧(∀t (h:t<tbl.length),m≤t→¬bl tbl[t]<bl s)∧Below w.heap.size w w':=by
 obtain ⟨W,hW⟩:∃W,(w.alloc (.cells #[.slice T tbl.length c] 22)).alloc (.cells #[.func (.func 135) #[] #[.pointer (some ⟨bs,0,none⟩)]] 126)=W:=⟨_,rfl⟩
 have hb:Below w.heap.size w W:=by rw [← hW];exact ((aV _ _).alloc (aW _) _).alloc (by simp) _
 have c2:W.cell? ⟨w.heap.size,0,none⟩=some (.slice T tbl.length c):=by
  rw [← hW]
  exact cell_keep ((aV _ _).alloc (aW _) _) (fG w _ _)
 have c3:W.cell? ⟨w.heap.size+1,0,none⟩=some (.func (.func 135) #[] #[.pointer (some ⟨bs,0,none⟩)]):=by
  rw [← hW]
  have:=fG (w.alloc (.cells #[.slice T tbl.length c] 22)) (.func (.func 135) #[] #[.pointer (some ⟨bs,0,none⟩)]) 126
  rwa [bH] at this
 have hp:∀i (h:i<tbl.length),(tbl.getD i ByteArray.empty)=tbl[i]:=fun i h=>by simp [List.getD,h]
 have HS:=aF (sA tbl.length (fun i=> !decide (bl (tbl.getD i ByteArray.empty)<bl s)) #[.pointer (some ⟨w.heap.size+1,0,none⟩),.pointer (some ⟨w.heap.size,0,none⟩)] W (by omega)
  (fun a b hab hbl hpa=>by
    simp only [Bool.not_eq_true',decide_eq_false_iff_not] at hpa ⊢
    rw [hp a (by omega)] at hpa
    rw [hp b hbl]
    intro hlt
    rcases Nat.lt_or_ge a b with h | h
    ·exact hpa (lt_trans' (List.pairwise_iff_getElem.1 hsort a b (by omega) hbl h) hlt)
    ·have:a=b:=by omega
     subst this
     exact hpa hlt)
  (fun X hX i hi=>by
    have:=xFY tbl T c i (w.heap.size+1) w.heap.size bs s X ((hs.keep RN.keeps hb).keep RN.keeps hX) hi (cell_keep hX c3) (cell_keep hX c2) (cell_keep hX (cell_keep hb h1))
    simp only [hp i hi]
    exact this))
 have HB:=aF hb
 have HPP:=aF hp
 have hst:∀(a:Addr) (fn:Fn) (f c:Array Value) (W:World),(store a (.func fn f c)).run Tryz.prog W=stored Tryz.prog W a (.func fn f c) .plain:=fun a fn f c W=>run_store Tryz.prog W a (.func fn f c) _ rfl
 clear hs h1 hsort hb hp
 go_enter Tryz.func134,Tryz.ntmps134
 go_wp2_with fail
 go_at_call 185
 refine HS.out.mono ?_
 rintro e' w1 ⟨m,hm,rfl,hlo,hhi,hb1⟩
 have H1:=aF hlo
 have H2:=aF hhi
 have HB1:=aF hb1
 clear hlo hhi hb1
 go_wp2_with fail
 go_ret
 refine ⟨m,hm,rfl,fun t h ht=>?_,fun t h ht=>?_,HB.out.trans (HB1.out.mono HB.out.size)⟩
 ·have:=H1.out t ht
  rw [HPP.out t h] at this
  simpa using this
 ·have:=H2.out t ht h
  rw [HPP.out t h] at this
  simpa using this
theorem zF {tbl:List ByteArray} {s:ByteArray} {m:Nat} (hs:tbl.Pairwise (fun a b=>bl a<bl b)) (h1:∀t (h:t<tbl.length),t<m→bl tbl[t]<bl s) (h2:∀t (h:t<tbl.length),m≤t→¬bl tbl[t]<bl s):
 (∀h:m<tbl.length,tbl[m]=s→memN s tbl=true∧idxN s 0 tbl=m)∧((∀h:m<tbl.length,tbl[m]≠s)→memN s tbl=false):=by
 have hnd:tbl.Nodup:=List.Pairwise.imp (fun {a b} (h:bl a<bl b)=>(fun e:a=b=>iD (bl b) (by rw [e] at h;exact h):a≠b)) hs
 constructor
 ·intro h e
  refine ⟨tZ.2 (e ▸ bM h),?_⟩
  have:=xGF hnd m 0 s (by rw [bB h,e])
  simpa using this
 ·intro h
  by_cases hm:memN s tbl=true
  ·exfalso
   obtain ⟨j,hj,e⟩:=List.getElem_of_mem (tZ.1 hm)
   have hjm:m≤j:=by
    rcases Nat.lt_or_ge j m with hx | hx
    ·have:=h1 j hj hx
     rw [e] at this
     exact absurd this (iD _)
    ·exact hx
   rcases Nat.lt_or_ge m j with hx | hx
   ·have:=List.pairwise_iff_getElem.1 hs m j (by omega) hj hx
    rw [e] at this
    exact h2 m (by omega) (aW _) this
   ·have:m=j:=by omega
    subst this
    exact h hj e
  ·simpa using hm
theorem vZ (t:Nat) (T:Option Addr) (c:Nat) (tbl:List ByteArray) (s:ByteArray) (w:World) (H:TabAt w t T c tbl) (hsort:tbl.Pairwise (fun a b=>bl a<bl b)) (hl:tbl.length≤1000000):
 Calls Tryz.prog 81 #[.pointer (some ⟨t,0,none⟩),.string s] w fun e' w'=>e' = .returned (.tuple #[.int .i64 (if memN s tbl=true then idxN s 0 tbl else 0),.bool (memN s tbl)])∧Below w.heap.size w w':=by
 obtain ⟨W,hW⟩:∃W,w.alloc (.cells #[.string s] 9)=W:=⟨_,rfl⟩
 have hb:Below w.heap.size w W:=by rw [← hW];exact (aV _ _).alloc (aW _) _
 have cs:W.cell? ⟨w.heap.size,0,none⟩=some (.string s):=by rw [← hW];exact fG w _ _
 have HT:=aF (H.keep hb)
 have ct:W.cell? ⟨t,0,none⟩=some (.slice T tbl.length c):=by
  have:=HT.out.at_
  simp [World.cell?,this]
 have HS:=aF (xCP tbl T c w.heap.size s W HT.out.row cs hsort hl)
 have HI:=aF (fun m (h1:∀t (h:t<tbl.length),t<m→bl tbl[t]<bl s) h2=>zF hsort h1 h2)
 have HB:=aF hb
 obtain ⟨q1,hq1⟩:∃q,(if memN s tbl=true then idxN s 0 tbl else 0)=q:=⟨_,rfl⟩
 obtain ⟨q2,hq2⟩:∃q,memN s tbl=q:=⟨_,rfl⟩
 rw [hq1,hq2]
 have HQ1:=aF hq1
 have HQ2:=aF hq2
 have hle:=HT.out.row.le
 have hbg:=HT.out.row.big
 clear H hsort hb hq1 hq2
 go_enter Tryz.func81,Tryz.ntmps81
 go_wp2_with fail
 go_at_call 134
 refine HS.out.mono ?_
 rintro e' w1 ⟨m,hm,rfl,hlo,hhi,hb1⟩
 obtain ⟨hf1,hf2⟩:=HI.out m hlo hhi
 have c1:=cell_keep hb1 cs
 have c2:=cell_keep hb1 ct
 have HB1:=aF hb1
 by_cases hmn:m<tbl.length
 ·obtain ⟨b,o,rfl,hbb,y⟩:=(HT.out.row.keep RN.keeps hb1).sl.at_ hmn
  have hf1:=hf1 hmn
  have hf2':tbl[m]≠s→memN s tbl=false:=fun h=>hf2 (fun _=>h)
  generalize tbl[m]=x at *
  have p0:w1.cell? ⟨b,o+m,none⟩=some (.string x):=by simpa [RN] using y
  have e1:((m:Int) == (tbl.length:Int))=false:=beq_false_of_ne (by omega)
  clear y hb1 hlo hhi hf2 cs ct
  by_cases hxs:x=s
  ·subst hxs
   obtain ⟨g1,g2⟩:=hf1 rfl
   have G:Hid (q1=(m:Int)∧q2=true):=aF ⟨by rw [← HQ1.out,g1,aY rfl,g2],by rw [← HQ2.out,g1]⟩
   clear hf1 hf2' g1 g2
   go_wp2_with fail
   go_quiet (fail)
   go_wp2_with fail
   refine bodyPost_ret (v:= .tuple #[.int .i64 m,.bool true]) (by simp [results,Tryz.results81,go_sem] <;> rfl) rfl ?_
   rw [G.out.1,G.out.2]
   exact ⟨rfl,HB.out.trans (bA (HB1.out.mono HB.out.size) _)⟩
  ·have g1:=hf2' hxs
   have e2:(x.toList == s.toList)=false:=by rw [xEG];simp [hxs]
   have G:Hid (q1=0∧q2=false):=aF ⟨by rw [← HQ1.out,g1];rfl,by rw [← HQ2.out,g1]⟩
   clear hf1 hf2' g1 hxs
   go_wp2_with fail
   go_quiet (fail)
   go_wp2_with fail
   refine bodyPost_ret (v:= .tuple #[.int .i64 0,.bool false]) (by simp [results,Tryz.results81,go_sem] <;> rfl) rfl ?_
   rw [G.out.1,G.out.2]
   exact ⟨rfl,HB.out.trans (bA (HB1.out.mono HB.out.size) _)⟩
 ·have g1:=hf2 (fun h=>absurd h hmn)
  have G:Hid (q1=0∧q2=false):=aF ⟨by rw [← HQ1.out,g1];rfl,by rw [← HQ2.out,g1]⟩
  have e1:((m:Int) == (tbl.length:Int))=true:=by simp;omega
  clear hf1 hf2 g1 hb1 hlo hhi cs ct
  go_wp2_with fail
  go_quiet (fail)
  go_wp2_with fail
  refine bodyPost_ret (v:= .tuple #[.int .i64 0,.bool false]) (by simp [results,Tryz.results81,go_sem] <;> rfl) rfl ?_
  rw [G.out.1,G.out.2]
  exact ⟨rfl,HB.out.trans (bA (HB1.out.mono HB.out.size) _)⟩
structure ES (w0:World) (h g t:Nat) (X:World) (er:Int) (l:List UInt8):Prop where
 bel:Below w0.heap.size w0 X
 at_:X.heap[h]?=some (.cells #[.pointer (some ⟨g,0,none⟩),.pointer (some ⟨t,0,none⟩),.int .i64 er] 75 (0,0))
 wr:WRd X g l
 low:w0.heap.size≤g
 hg:g<h
structure WrE (g h:Nat) (w w':World):Prop where
 size:w.heap.size≤w'.heap.size
 block:∀k o,w.heap[k]?=some o→k≠g→k≠h→(k<g∨isU8 o=false)→w'.heap[k]?=some o
theorem WrE.refl (g h:Nat) (w:World):WrE g h w w:=⟨aW _,fun _ _ h _ _ _=>h⟩
theorem WrE.trans {g h:Nat} {a b c:World} (x:WrE g h a b) (y:WrE g h b c):WrE g h a c:=⟨bX x.size y.size,fun k o h1 h2 h3 h4=>y.block k o (x.block k o h1 h2 h3 h4) h2 h3 h4⟩
theorem WrE.of_wr {g h:Nat} {a b:World} (x:Wr g a b):WrE g h a b:=⟨x.size,fun k o h1 h2 _ h4=>x.block k o h1 h2 h4⟩
theorem WrE.of_below {g h:Nat} {a b:World} (x:Below a.heap.size a b):WrE g h a b:=WrE.of_wr (Wr.of_below x)
theorem ES.wrs {w0 X Y:World} {h g t:Nat} {er:Int} {l l':List UInt8} (s:ES w0 h g t X er l) (x:Wr g X Y) (hw:WRd Y g l'):ES w0 h g t Y er l':=
 ⟨s.bel.trans ((x.below (Nat.le_of_lt s.wr.lt)).mono s.low),x.block h _ s.at_ (by have:=s.hg;omega) (.inr rfl),hw,s.low,s.hg⟩
theorem ES.keep {w0 X Y:World} {h g t:Nat} {er:Int} {l:List UInt8} (s:ES w0 h g t X er l) (x:Below X.heap.size X Y):ES w0 h g t Y er l:=s.wrs (Wr.of_below x) (s.wr.keep x)
theorem trip {w:World} {k:Nat} {a b c:Value} {t:TypeId} (h:w.heap[k]?=some (.cells #[a,b,c] t (0,0))):w.cell? ⟨k,0,none⟩=some a∧w.cell? ⟨k,1,none⟩=some b∧w.cell? ⟨k,2,none⟩=some c∧w.frozen? ⟨k,2,none⟩=false:=
 ⟨by rw [cell_of_row w _ 0 _ _ _ h];rfl,by rw [cell_of_row w _ 1 _ _ _ h];rfl,by rw [cell_of_row w _ 2 _ _ _ h];rfl,by simp [World.frozen?,h]⟩
theorem dT (w0:World) (h g t:Nat) (er:Int) (l:List UInt8) (n:Int) (X:World) (s:ES w0 h g t X er l) (hn:0≤n∧n<9223372036854775808) (hl:(l ++ putI n).length≤1000000000):
 Calls Tryz.prog 38 #[.pointer (some ⟨h,0,none⟩),.int .i64 n] X fun e' w'=>e' = .returned (.tuple #[])∧ES w0 h g t w' er (l ++ putI n)∧WrE g h X w':=by
 obtain ⟨m,rfl⟩:=bF hn.1
 have hpi:putI (m:Int)=putL m:=rfl
 rw [hpi] at hl ⊢
 rw [aZ] at hl
 have HU:=aF (xGV g l m X s.wr (by omega) (by omega))
 have ew:IntKind.u64.wrap (m:Int)=(m:Int):=by rw [IntKind.wrap_u64];omega
 obtain ⟨x0,x1,x2,_⟩:=trip s.at_
 have HS:=aF s
 clear s hl hpi
 go_enter Tryz.func38,Tryz.ntmps38
 go_wp2_with (go_at_call 84;refine HU.out.mono ?_;rintro e' w1 ⟨rfl,hw1,hx1⟩;have HW1:=aF hw1;have HX1:=aF hx1;clear hw1 hx1)
 exact bodyPost_end (v:= .tuple #[]) (by simp [results,Tryz.results38,go_sem] <;> rfl) rfl ⟨rfl,HS.out.wrs HX1.out HW1.out,WrE.of_wr HX1.out⟩
def nameX (tbl:List ByteArray) (s:ByteArray):List UInt8:=putI (if memN s tbl=true then idxN s 0 tbl else 0)
def errX (tbl:List ByteArray) (s:ByteArray) (er:Int):Int:=if memN s tbl=true then er else 20
theorem zG (s:ByteArray):∀(l:List ByteArray) (k:Nat),idxN s k l<k+l.length+1
 | [],k=>by simp [idxN];omega
 | x :: r,k=>by
   unfold idxN
   split
   ·simp;omega
   ·have:=zG s r (k+1)
    simp only [bJ];omega
theorem lP (w0:World) (h g t:Nat) (T:Option Addr) (c:Nat) (tbl:List ByteArray) (er:Int) (l:List UInt8) (s:ByteArray) (X:World) (H:TabAt w0 t T c tbl) (hsort:tbl.Pairwise (fun a b=>bl a<bl b)) (htl:tbl.length≤1000000)
 (hs:ES w0 h g t X er l) (hl:(l ++ nameX tbl s).length≤1000000000):
 Calls Tryz.prog 30 #[.pointer (some ⟨h,0,none⟩),.string s] X fun e' w'=>e' = .returned (.tuple #[])∧ES w0 h g t w' (errX tbl s er) (l ++ nameX tbl s)∧WrE g h X w':=by
 have hx:TabAt X t T c tbl:=H.keep hs.bel
 have HI:=aF (vZ t T c tbl s X hx hsort htl)
 obtain ⟨q,hq⟩:∃q,(if memN s tbl=true then idxN s 0 tbl else 0)=q:=⟨_,rfl⟩
 rw [hq] at HI
 have hq0:0≤q∧q<9223372036854775808:=by
  rw [← hq]
  by_cases hm:memN s tbl=true
  ·rw [aY hm]
   have h1:=(jF s 0 tbl).2 hm
   have h2:=zG s tbl 0
   omega
  ·rw [aX hm];omega
 have HX:Hid (nameX tbl s=putI q):=aF (by unfold nameX;rw [hq])
 have hl':(l ++ putI q).length≤1000000000:=by rw [← HX.out];exact hl
 have HE:Hid (errX tbl s er=if memN s tbl=true then er else 20):=aF rfl
 generalize errX tbl s er=er' at *
 generalize nameX tbl s=nx at *
 obtain ⟨x0,x1,x2,x3⟩:=trip hs.at_
 have HS:=aF hs
 have HL:=aF hl'
 have HQ0:=aF hq0
 have hgh:=hs.hg
 clear hs hl hx hq H hl' hq0
 cases hm:memN s tbl with
 | true=>
   rw [hm] at HI HE
   have HE2:Hid (er'=er):=aF (by rw [HE.out,aY rfl])
   clear hm HE
   go_enter Tryz.func30,Tryz.ntmps30
   go_wp2_with fail
   go_at_call 81
   refine HI.out.mono ?_
   rintro e' w1 ⟨rfl,hb1⟩
   have HS1:=aF (HS.out.keep hb1)
   have HB1:=aF hb1
   clear hb1
   go_wp2_with fail
   go_at_call 38
   refine (dT w0 h g t er l q w1 HS1.out HQ0.out HL.out).mono ?_
   rintro e' w2 ⟨rfl,hs2,hx2⟩
   have HS2:=aF hs2
   have HX2:=aF hx2
   clear hs2 hx2
   go_wp2_with fail
   exact bodyPost_end (v:= .tuple #[]) (by simp [results,Tryz.results30,go_sem] <;> rfl) rfl ⟨rfl,by rw [HE2.out,HX.out];exact HS2.out,(WrE.of_below HB1.out).trans HX2.out⟩
 | false=>
   rw [hm] at HI HE
   have HE2:Hid (er'=20):=aF (by rw [HE.out,aX (by simp)])
   clear hm HE
   go_enter Tryz.func30,Tryz.ntmps30
   go_wp2_with fail
   go_at_call 81
   refine HI.out.mono ?_
   rintro e' w1 ⟨rfl,hb1⟩
   have hs1:=HS.out.keep hb1
   obtain ⟨y0,y1,y2,y3⟩:=trip hs1.at_
   obtain ⟨W2,hW2⟩:∃W2,w1.setCell ⟨h,2,none⟩ (.int .i64 20)=W2:=⟨_,rfl⟩
   have hs2:ES w0 h g t W2 20 l:=by
    rw [← hW2]
    refine ⟨hs1.bel.setCell (p:=⟨h,2,none⟩) (by have:=hs1.low;simp;omega) _,gP _ hs1.at_,?_,hs1.low,hs1.hg⟩
    obtain ⟨A',c',g1,g2⟩:=hs1.wr
    exact ⟨A',c',(bG _ _ _ g (by simp;omega)).trans g1,cY g2 (fun k _ _ hk=>bG _ _ _ k (by
     intro e
     simp only at e
     subst e
     exact fH g2 hs1.at_ (by decide) hk))⟩
   have hx2:WrE g h X W2:=by
    rw [← hW2]
    refine (WrE.of_below hb1).trans ⟨by simp,fun k o h1 h2 h3 h4=>?_⟩
    rw [bG _ _ _ k (by simpa using h3)]
    exact h1
   have HS2:=aF hs2
   have HX2:=aF hx2
   clear hb1 hs1 hs2 hx2
   go_wp2_with fail
   go_at_call 38
   refine (dT w0 h g t 20 l q W2 HS2.out HQ0.out HL.out).mono ?_
   rintro e' w3 ⟨rfl,hs3,hx3⟩
   have HS3:=aF hs3
   have HX3:=aF hx3
   clear hs3 hx3
   go_wp2_with fail
   exact bodyPost_end (v:= .tuple #[]) (by simp [results,Tryz.results30,go_sem] <;> rfl) rfl ⟨rfl,by rw [HE2.out,HX.out];exact HS3.out,HX2.out.trans HX3.out⟩
theorem zW (w0:World) (h g t:Nat) (er:Int) (l:List UInt8) (x:(Int × Int)) (X:World) (hs:ES w0 h g t X er l) (hn:(0≤x.1∧x.1<9223372036854775808)∧(0≤x.2∧x.2<9223372036854775808)) (hl:(l ++ pairW x).length≤1000000000):
 Calls Tryz.prog 33 #[.pointer (some ⟨h,0,none⟩),.agg #[.int .i64 x.1,.int .i64 x.2]] X fun e' w'=>e' = .returned (.tuple #[])∧ES w0 h g t w' (er) (l ++ pairW x)∧WrE g h X w':=by
 obtain ⟨W,hW⟩:∃W,X.alloc (.cells #[.int .i64 x.1,.int .i64 x.2] 79)=W:=⟨_,rfl⟩
 have hb:Below X.heap.size X W:=by rw [← hW];exact (aV _ _).alloc (aW _) _
 have hk:W.heap[X.heap.size]?=some (.cells #[.int .i64 x.1,.int .i64 x.2] 79 (0,0)):=by rw [← hW];exact heap_alloc_new X _
 have hsW:=hs.keep hb
 have hhl:h<X.heap.size:=(Array.getElem?_eq_some_iff.1 hs.at_).1
 have hgl:=hs.wr.lt
 obtain ⟨z0,z1,_,_⟩:=blk2 hk
 have HK:=aF hk
 have HSW:=aF hsW
 have HB:=aF hb
 have HL:=aF hl
 have HN:=aF hn
 clear hs hl hk hsW hb hn
 go_enter Tryz.func33,Tryz.ntmps33
 go_wp2_with fail
 go_at_call 38
 refine (dT w0 h g t er l x.1 W HSW.out HN.out.1 (by have h:=HL.out;unfold pairW at h;simp only [aZ] at h ⊢;omega)).mono ?_
 rintro e' w1 ⟨rfl,hs1,hx1⟩
 have hk1:=hx1.block _ _ HK.out (by omega) (by omega) (.inr rfl)
 obtain ⟨y0,y1,_,_⟩:=blk2 hk1
 have HS1:=aF hs1
 have HX1:=aF hx1
 clear hs1 hx1 hk1
 go_wp2_with fail
 go_at_call 38
 refine (dT w0 h g t er _ x.2 w1 HS1.out HN.out.2 (by have h:=HL.out;unfold pairW at h;simp only [aZ] at h ⊢;omega)).mono ?_
 rintro e' w2 ⟨rfl,hs2,hx2⟩
 have HS2:=aF hs2
 have HX2:=aF hx2
 clear hs2 hx2
 go_wp2_with fail
 exact bodyPost_end (v:= .tuple #[]) (by simp [results,Tryz.results33,go_sem] <;> rfl) rfl ⟨rfl,by unfold pairW;rw [← bK];exact HS2.out,((WrE.of_below HB.out).trans HX1.out).trans HX2.out⟩
def eD (tbl:List ByteArray) (x:Lc):List UInt8:=nameX tbl x.name ++ putI x.type
theorem wO (w0:World) (h g t:Nat) (T:Option Addr) (c:Nat) (tbl:List ByteArray) (er:Int) (l:List UInt8) (x:Lc) (X:World) (H:TabAt w0 t T c tbl) (hsort:tbl.Pairwise (fun a b=>bl a<bl b)) (htl:tbl.length≤1000000) (hs:ES w0 h g t X er l) (hn:0≤x.type∧x.type<9223372036854775808) (hl:(l ++ eD tbl x).length≤1000000000):
 Calls Tryz.prog 37 #[.pointer (some ⟨h,0,none⟩),.agg #[.string x.name,.int .i64 x.type]] X fun e' w'=>e' = .returned (.tuple #[])∧ES w0 h g t w' (errX tbl x.name er) (l ++ eD tbl x)∧WrE g h X w':=by
 obtain ⟨W,hW⟩:∃W,X.alloc (.cells #[.string x.name,.int .i64 x.type] 87)=W:=⟨_,rfl⟩
 have hb:Below X.heap.size X W:=by rw [← hW];exact (aV _ _).alloc (aW _) _
 have hk:W.heap[X.heap.size]?=some (.cells #[.string x.name,.int .i64 x.type] 87 (0,0)):=by rw [← hW];exact heap_alloc_new X _
 have hsW:=hs.keep hb
 have hhl:h<X.heap.size:=(Array.getElem?_eq_some_iff.1 hs.at_).1
 have hgl:=hs.wr.lt
 obtain ⟨z0,z1,_,_⟩:=blk2 hk
 have HK:=aF hk
 have HSW:=aF hsW
 have HB:=aF hb
 have HL:=aF hl
 have HN:=aF hn
 have HTB:=aF H
 have HSO:=aF hsort
 clear hs hl hk hsW hb hn H hsort
 go_enter Tryz.func37,Tryz.ntmps37
 go_wp2_with fail
 go_at_call 30
 refine (lP w0 h g t T c tbl er l x.name W HTB.out HSO.out htl HSW.out (by have h:=HL.out;unfold eD at h;simp only [aZ] at h ⊢;omega)).mono ?_
 rintro e' w1 ⟨rfl,hs1,hx1⟩
 have hk1:=hx1.block _ _ HK.out (by omega) (by omega) (.inr rfl)
 obtain ⟨y0,y1,_,_⟩:=blk2 hk1
 have HS1:=aF hs1
 have HX1:=aF hx1
 clear hs1 hx1 hk1
 go_wp2_with fail
 go_at_call 38
 refine (dT w0 h g t _ _ x.type w1 HS1.out HN.out (by have h:=HL.out;unfold eD at h;simp only [aZ] at h ⊢;omega)).mono ?_
 rintro e' w2 ⟨rfl,hs2,hx2⟩
 have HS2:=aF hs2
 have HX2:=aF hx2
 clear hs2 hx2
 go_wp2_with fail
 exact bodyPost_end (v:= .tuple #[]) (by simp [results,Tryz.results37,go_sem] <;> rfl) rfl ⟨rfl,by unfold eD;rw [← bK];exact HS2.out,((WrE.of_below HB.out).trans HX1.out).trans HX2.out⟩
theorem xAA (w0:World) (h g t:Nat) (er:Int) (l:List UInt8) (xs:List Int) (A:Option Addr) (d:Nat) (X:World) (hxs:Slc 1 RInt w0 A d xs) (hs:ES w0 h g t X er l) (hn:∀x∈xs,0≤x∧x<9223372036854775808) (hl:(l ++ listW putI xs).length≤1000000000):
 Calls Tryz.prog 83 #[.pointer (some ⟨h,0,none⟩),.slice A xs.length d,.func (.func 38) #[.pointer (some ⟨h,0,none⟩)] #[]] X fun e' w'=>e' = .returned (.tuple #[])∧ES w0 h g t w' (xs.foldl (fun e _=>e) er) (l ++ listW putI xs)∧WrE g h X w':=by
 have hle:=hxs.le
 have hbg:=hxs.big
 have HXS:=aF hxs
 have HN:=aF hn
 have HL:=aF hl
 have HS:=aF hs
 have hhl:h<X.heap.size:=(Array.getElem?_eq_some_iff.1 hs.at_).1
 have hgh:=hs.hg
 have HW:Hid (listW putI xs=putI (xs.length:Int) ++ xs.flatMap putI):=aF rfl
 have HE:=aF (dT w0 h g t er l (xs.length:Int) X hs (by omega) (by have h:=hl;rw [HW.out] at h;simp only [aZ] at h ⊢;omega))
 clear hxs hs hn hl
 go_enter Tryz.func83,Tryz.ntmps83
 go_wp2_with fail
 go_at_call 38
 refine HE.out.mono ?_
 rintro e' w1 ⟨rfl,hs1,hx1⟩
 have HS1:=aF hs1
 have HX1:=aF hx1
 clear hs1 hx1 HE
 go_wp2_with fail
 go_loopw [14] (fun i wr=>∃k:Nat,k≤xs.length∧i = .int .i64 k∧Hid (ES w0 h g t wr ((xs.take k).foldl (fun e _=>e) er) (l ++ (putI (xs.length:Int) ++ (xs.take k).flatMap putI)))∧Hid (WrE g h X wr)) (fun i _=>xs.length - (intOf i).toNat)
 case atStart=>exact ⟨0,by omega,rfl,aF (by simpa using HS1.out),HX1⟩
 case round=>
  obtain ⟨k,hk,rfl,HSk,HXk⟩:=hrel
  by_cases hlt:k<xs.length
  ·obtain ⟨b,o,rfl,hb,y⟩:=(HXS.out.keep RInt.keeps HSk.out.bel).sl.at_ hlt
   have HTK:Hid (xs.take (k+1)=xs.take k ++ [xs[k]]):=aF (bE hlt)
   have HNX:=aF (HN.out xs[k] (bM hlt))
   have HLK:Hid ((l ++ (putI (xs.length:Int) ++ (xs.take k).flatMap putI) ++ putI xs[k]).length≤1000000000):=aF (by
    have h1:=HL.out
    rw [HW.out,← cG (k+1) xs] at h1
    rw [HTK.out] at h1
    simp only [cA,List.flatMap_cons,List.flatMap_nil,List.append_nil,aZ,cN,List.length_drop,bJ,bO] at h1 ⊢
    have e:min k xs.length+(0+1)+(xs.length - (k+1))=xs.length:=by omega
    first
    | omega
    | (rw [e] at h1;omega))
   generalize xs[k]=x at *
   have p0:wr.cell? ⟨b,o+k,none⟩=some (.int .i64 x):=by simpa [RInt] using y
   clear y
   go_wp2_with fail
   go_at_call 38
   refine (dT w0 h g t _ _ x wr HSk.out HNX.out HLK.out).mono ?_
   rintro e' w2 ⟨rfl,hs2,hx2⟩
   have HS2:Hid (ES w0 h g t w2 ((xs.take (k+1)).foldl (fun e _=>e) er) (l ++ (putI (xs.length:Int) ++ (xs.take (k+1)).flatMap putI))):=aF (by
    rw [HTK.out,List.foldl_append,cA,List.flatMap_singleton,← bK,← bK]
    rw [← bK] at hs2
    exact hs2)
   have HX2:=aF hx2
   clear hs2 hx2
   go_wp2_with fail
   go_roundw
   case rel=>exact ⟨k+1,by omega,by go_num,HS2,aF (HXk.out.trans HX2.out)⟩
   case measure=>simp [intOf];omega
  ·have hke:k=xs.length:=by omega
   have ht:xs.take k=xs:=by rw [hke,bZ]
   have hfin:=HSk.out
   rw [ht,← HW.out] at hfin
   have HFIN:=aF hfin
   clear hke ht hfin
   go_wp2_with fail
   exact bodyPost_end (v:= .tuple #[]) (by simp [results,Tryz.results83,go_sem] <;> rfl) rfl ⟨rfl,HFIN.out,HXk.out⟩
theorem zY (w0:World) (h g t:Nat) (T:Option Addr) (c:Nat) (tbl:List ByteArray) (er:Int) (l:List UInt8) (xs:List ByteArray) (A:Option Addr) (d:Nat) (X:World) (H:TabAt w0 t T c tbl) (hsort:tbl.Pairwise (fun a b=>bl a<bl b)) (htl:tbl.length≤1000000) (hxs:Slc 1 RN w0 A d xs) (hs:ES w0 h g t X er l) (hn:∀x∈xs,True) (hl:(l ++ listW (nameX tbl) xs).length≤1000000000):
 Calls Tryz.prog 31 #[.pointer (some ⟨h,0,none⟩),.slice A xs.length d,.func (.func 30) #[.pointer (some ⟨h,0,none⟩)] #[]] X fun e' w'=>e' = .returned (.tuple #[])∧ES w0 h g t w' (xs.foldl (fun e s=>errX tbl s e) er) (l ++ listW (nameX tbl) xs)∧WrE g h X w':=by
 have hle:=hxs.le
 have hbg:=hxs.big
 have HXS:=aF hxs
 have HN:=aF hn
 have HL:=aF hl
 have HS:=aF hs
 have hhl:h<X.heap.size:=(Array.getElem?_eq_some_iff.1 hs.at_).1
 have hgh:=hs.hg
 have HTB:=aF H
 have HSO:=aF hsort
 have HW:Hid (listW (nameX tbl) xs=putI (xs.length:Int) ++ xs.flatMap (nameX tbl)):=aF rfl
 have HE:=aF (dT w0 h g t er l (xs.length:Int) X hs (by omega) (by have h:=hl;rw [HW.out] at h;simp only [aZ] at h ⊢;omega))
 clear hxs hs hn hl H hsort
 go_enter Tryz.func31,Tryz.ntmps31
 go_wp2_with fail
 go_at_call 38
 refine HE.out.mono ?_
 rintro e' w1 ⟨rfl,hs1,hx1⟩
 have HS1:=aF hs1
 have HX1:=aF hx1
 clear hs1 hx1 HE
 go_wp2_with fail
 go_loopw [14] (fun i wr=>∃k:Nat,k≤xs.length∧i = .int .i64 k∧Hid (ES w0 h g t wr ((xs.take k).foldl (fun e s=>errX tbl s e) er) (l ++ (putI (xs.length:Int) ++ (xs.take k).flatMap (nameX tbl))))∧Hid (WrE g h X wr)) (fun i _=>xs.length - (intOf i).toNat)
 case atStart=>exact ⟨0,by omega,rfl,aF (by simpa using HS1.out),HX1⟩
 case round=>
  obtain ⟨k,hk,rfl,HSk,HXk⟩:=hrel
  by_cases hlt:k<xs.length
  ·obtain ⟨b,o,rfl,hb,y⟩:=(HXS.out.keep RN.keeps HSk.out.bel).sl.at_ hlt
   have HTK:Hid (xs.take (k+1)=xs.take k ++ [xs[k]]):=aF (bE hlt)
   have HNX:=aF (HN.out xs[k] (bM hlt))
   have HLK:Hid ((l ++ (putI (xs.length:Int) ++ (xs.take k).flatMap (nameX tbl)) ++ (nameX tbl) xs[k]).length≤1000000000):=aF (by
    have h1:=HL.out
    rw [HW.out,← cG (k+1) xs] at h1
    rw [HTK.out] at h1
    simp only [cA,List.flatMap_cons,List.flatMap_nil,List.append_nil,aZ,cN,List.length_drop,bJ,bO] at h1 ⊢
    have e:min k xs.length+(0+1)+(xs.length - (k+1))=xs.length:=by omega
    first
    | omega
    | (rw [e] at h1;omega))
   generalize xs[k]=x at *
   have p0:wr.cell? ⟨b,o+k,none⟩=some (.string x):=by simpa [RN] using y
   clear y
   go_wp2_with fail
   go_at_call 30
   refine (lP w0 h g t T c tbl _ _ x wr HTB.out HSO.out htl HSk.out HLK.out).mono ?_
   rintro e' w2 ⟨rfl,hs2,hx2⟩
   have HS2:Hid (ES w0 h g t w2 ((xs.take (k+1)).foldl (fun e s=>errX tbl s e) er) (l ++ (putI (xs.length:Int) ++ (xs.take (k+1)).flatMap (nameX tbl)))):=aF (by
    rw [HTK.out,List.foldl_append,cA,List.flatMap_singleton,← bK,← bK]
    rw [← bK] at hs2
    exact hs2)
   have HX2:=aF hx2
   clear hs2 hx2
   go_wp2_with fail
   go_roundw
   case rel=>exact ⟨k+1,by omega,by go_num,HS2,aF (HXk.out.trans HX2.out)⟩
   case measure=>simp [intOf];omega
  ·have hke:k=xs.length:=by omega
   have ht:xs.take k=xs:=by rw [hke,bZ]
   have hfin:=HSk.out
   rw [ht,← HW.out] at hfin
   have HFIN:=aF hfin
   clear hke ht hfin
   go_wp2_with fail
   exact bodyPost_end (v:= .tuple #[]) (by simp [results,Tryz.results31,go_sem] <;> rfl) rfl ⟨rfl,HFIN.out,HXk.out⟩
theorem wP (w0:World) (h g t:Nat) (er:Int) (l:List UInt8) (xs:List (Int × Int)) (A:Option Addr) (d:Nat) (X:World) (hxs:Slc 2 RPr w0 A d xs) (hs:ES w0 h g t X er l) (hn:∀x∈xs,(0≤x.1∧x.1<9223372036854775808)∧(0≤x.2∧x.2<9223372036854775808)) (hl:(l ++ listW pairW xs).length≤1000000000):
 Calls Tryz.prog 32 #[.pointer (some ⟨h,0,none⟩),.slice A xs.length d,.func (.func 33) #[.pointer (some ⟨h,0,none⟩)] #[]] X fun e' w'=>e' = .returned (.tuple #[])∧ES w0 h g t w' (xs.foldl (fun e _=>e) er) (l ++ listW pairW xs)∧WrE g h X w':=by
 have hle:=hxs.le
 have hbg:=hxs.big
 have HXS:=aF hxs
 have HN:=aF hn
 have HL:=aF hl
 have HS:=aF hs
 have hhl:h<X.heap.size:=(Array.getElem?_eq_some_iff.1 hs.at_).1
 have hgh:=hs.hg
 have HW:Hid (listW pairW xs=putI (xs.length:Int) ++ xs.flatMap pairW):=aF rfl
 have HE:=aF (dT w0 h g t er l (xs.length:Int) X hs (by omega) (by have h:=hl;rw [HW.out] at h;simp only [aZ] at h ⊢;omega))
 clear hxs hs hn hl
 go_enter Tryz.func32,Tryz.ntmps32
 go_wp2_with fail
 go_at_call 38
 refine HE.out.mono ?_
 rintro e' w1 ⟨rfl,hs1,hx1⟩
 have HS1:=aF hs1
 have HX1:=aF hx1
 clear hs1 hx1 HE
 go_wp2_with fail
 go_loopw [14] (fun i wr=>∃k:Nat,k≤xs.length∧i = .int .i64 k∧Hid (ES w0 h g t wr ((xs.take k).foldl (fun e _=>e) er) (l ++ (putI (xs.length:Int) ++ (xs.take k).flatMap pairW)))∧Hid (WrE g h X wr)) (fun i _=>xs.length - (intOf i).toNat)
 case atStart=>exact ⟨0,by omega,rfl,aF (by simpa using HS1.out),HX1⟩
 case round=>
  obtain ⟨k,hk,rfl,HSk,HXk⟩:=hrel
  by_cases hlt:k<xs.length
  ·obtain ⟨b,o,rfl,hb,y⟩:=(HXS.out.keep RPr.keeps HSk.out.bel).sl.at_ hlt
   have HTK:Hid (xs.take (k+1)=xs.take k ++ [xs[k]]):=aF (bE hlt)
   have HNX:=aF (HN.out xs[k] (bM hlt))
   have HLK:Hid ((l ++ (putI (xs.length:Int) ++ (xs.take k).flatMap pairW) ++ pairW xs[k]).length≤1000000000):=aF (by
    have h1:=HL.out
    rw [HW.out,← cG (k+1) xs] at h1
    rw [HTK.out] at h1
    simp only [cA,List.flatMap_cons,List.flatMap_nil,List.append_nil,aZ,cN,List.length_drop,bJ,bO] at h1 ⊢
    have e:min k xs.length+(0+1)+(xs.length - (k+1))=xs.length:=by omega
    first
    | omega
    | (rw [e] at h1;omega))
   generalize xs[k]=x at *
   obtain ⟨p0,p1⟩:=(show wr.cell? ⟨b,o+k * 2,none⟩=some (.int .i64 x.1)∧wr.cell? ⟨b,o+k * 2+1,none⟩=some (.int .i64 x.2) from y)
   obtain ⟨W3,hW3⟩:∃W3,wr.alloc (.cells #[.int .i64 x.1,.int .i64 x.2] 79)=W3:=⟨_,rfl⟩
   have hbA:Below wr.heap.size wr W3:=by rw [← hW3];exact (aV _ _).alloc (aW _) _
   have hkA:W3.heap[wr.heap.size]?=some (.cells #[.int .i64 x.1,.int .i64 x.2] 79 (0,0)):=by rw [← hW3];exact heap_alloc_new wr _
   obtain ⟨z0,z1,_,_⟩:=blk2 hkA
   have HBA:=aF hbA
   have HSA:=aF (HSk.out.keep hbA)
   clear hbA hkA
   clear y
   go_wp2_with fail
   go_at_call 33
   refine (zW w0 h g t _ _ x W3 HSA.out HNX.out HLK.out).mono ?_
   rintro e' w2 ⟨rfl,hs2,hx2⟩
   have HS2:Hid (ES w0 h g t w2 ((xs.take (k+1)).foldl (fun e _=>e) er) (l ++ (putI (xs.length:Int) ++ (xs.take (k+1)).flatMap pairW))):=aF (by
    rw [HTK.out,List.foldl_append,cA,List.flatMap_singleton,← bK,← bK]
    rw [← bK] at hs2
    exact hs2)
   have HX2:=aF hx2
   clear hs2 hx2
   go_wp2_with fail
   go_roundw
   case rel=>exact ⟨k+1,by omega,by go_num,HS2,aF ((HXk.out.trans (WrE.of_below HBA.out)).trans HX2.out)⟩
   case measure=>simp [intOf];omega
  ·have hke:k=xs.length:=by omega
   have ht:xs.take k=xs:=by rw [hke,bZ]
   have hfin:=HSk.out
   rw [ht,← HW.out] at hfin
   have HFIN:=aF hfin
   clear hke ht hfin
   go_wp2_with fail
   exact bodyPost_end (v:= .tuple #[]) (by simp [results,Tryz.results32,go_sem] <;> rfl) rfl ⟨rfl,HFIN.out,HXk.out⟩
theorem zZ (w0:World) (h g t:Nat) (T:Option Addr) (c:Nat) (tbl:List ByteArray) (er:Int) (l:List UInt8) (xs:List Lc) (A:Option Addr) (d:Nat) (X:World) (H:TabAt w0 t T c tbl) (hsort:tbl.Pairwise (fun a b=>bl a<bl b)) (htl:tbl.length≤1000000) (hxs:Slc 2 RLc w0 A d xs) (hs:ES w0 h g t X er l) (hn:∀x∈xs,0≤x.type∧x.type<9223372036854775808) (hl:(l ++ listW (eD tbl) xs).length≤1000000000):
 Calls Tryz.prog 36 #[.pointer (some ⟨h,0,none⟩),.slice A xs.length d,.func (.func 37) #[.pointer (some ⟨h,0,none⟩)] #[]] X fun e' w'=>e' = .returned (.tuple #[])∧ES w0 h g t w' (xs.foldl (fun e (s:Lc)=>errX tbl s.name e) er) (l ++ listW (eD tbl) xs)∧WrE g h X w':=by
 have hle:=hxs.le
 have hbg:=hxs.big
 have HXS:=aF hxs
 have HN:=aF hn
 have HL:=aF hl
 have HS:=aF hs
 have hhl:h<X.heap.size:=(Array.getElem?_eq_some_iff.1 hs.at_).1
 have hgh:=hs.hg
 have HTB:=aF H
 have HSO:=aF hsort
 have HW:Hid (listW (eD tbl) xs=putI (xs.length:Int) ++ xs.flatMap (eD tbl)):=aF rfl
 have HE:=aF (dT w0 h g t er l (xs.length:Int) X hs (by omega) (by have h:=hl;rw [HW.out] at h;simp only [aZ] at h ⊢;omega))
 clear hxs hs hn hl H hsort
 go_enter Tryz.func36,Tryz.ntmps36
 go_wp2_with fail
 go_at_call 38
 refine HE.out.mono ?_
 rintro e' w1 ⟨rfl,hs1,hx1⟩
 have HS1:=aF hs1
 have HX1:=aF hx1
 clear hs1 hx1 HE
 go_wp2_with fail
 go_loopw [14] (fun i wr=>∃k:Nat,k≤xs.length∧i = .int .i64 k∧Hid (ES w0 h g t wr ((xs.take k).foldl (fun e (s:Lc)=>errX tbl s.name e) er) (l ++ (putI (xs.length:Int) ++ (xs.take k).flatMap (eD tbl))))∧Hid (WrE g h X wr)) (fun i _=>xs.length - (intOf i).toNat)
 case atStart=>exact ⟨0,by omega,rfl,aF (by simpa using HS1.out),HX1⟩
 case round=>
  obtain ⟨k,hk,rfl,HSk,HXk⟩:=hrel
  by_cases hlt:k<xs.length
  ·obtain ⟨b,o,rfl,hb,y⟩:=(HXS.out.keep RLc.keeps HSk.out.bel).sl.at_ hlt
   have HTK:Hid (xs.take (k+1)=xs.take k ++ [xs[k]]):=aF (bE hlt)
   have HNX:=aF (HN.out xs[k] (bM hlt))
   have HLK:Hid ((l ++ (putI (xs.length:Int) ++ (xs.take k).flatMap (eD tbl)) ++ (eD tbl) xs[k]).length≤1000000000):=aF (by
    have h1:=HL.out
    rw [HW.out,← cG (k+1) xs] at h1
    rw [HTK.out] at h1
    simp only [cA,List.flatMap_cons,List.flatMap_nil,List.append_nil,aZ,cN,List.length_drop,bJ,bO] at h1 ⊢
    have e:min k xs.length+(0+1)+(xs.length - (k+1))=xs.length:=by omega
    first
    | omega
    | (rw [e] at h1;omega))
   generalize xs[k]=x at *
   obtain ⟨p0,p1⟩:=(show wr.cell? ⟨b,o+k * 2,none⟩=some (.string x.name)∧wr.cell? ⟨b,o+k * 2+1,none⟩=some (.int .i64 x.type) from y)
   obtain ⟨W3,hW3⟩:∃W3,wr.alloc (.cells #[.string x.name,.int .i64 x.type] 87)=W3:=⟨_,rfl⟩
   have hbA:Below wr.heap.size wr W3:=by rw [← hW3];exact (aV _ _).alloc (aW _) _
   have hkA:W3.heap[wr.heap.size]?=some (.cells #[.string x.name,.int .i64 x.type] 87 (0,0)):=by rw [← hW3];exact heap_alloc_new wr _
   obtain ⟨z0,z1,_,_⟩:=blk2 hkA
   have HBA:=aF hbA
   have HSA:=aF (HSk.out.keep hbA)
   clear hbA hkA
   clear y
   go_wp2_with fail
   go_at_call 37
   refine (wO w0 h g t T c tbl _ _ x W3 HTB.out HSO.out htl HSA.out HNX.out HLK.out).mono ?_
   rintro e' w2 ⟨rfl,hs2,hx2⟩
   have HS2:Hid (ES w0 h g t w2 ((xs.take (k+1)).foldl (fun e (s:Lc)=>errX tbl s.name e) er) (l ++ (putI (xs.length:Int) ++ (xs.take (k+1)).flatMap (eD tbl)))):=aF (by
    rw [HTK.out,List.foldl_append,cA,List.flatMap_singleton,← bK,← bK]
    rw [← bK] at hs2
    exact hs2)
   have HX2:=aF hx2
   clear hs2 hx2
   go_wp2_with fail
   go_roundw
   case rel=>exact ⟨k+1,by omega,by go_num,HS2,aF ((HXk.out.trans (WrE.of_below HBA.out)).trans HX2.out)⟩
   case measure=>simp [intOf];omega
  ·have hke:k=xs.length:=by omega
   have ht:xs.take k=xs:=by rw [hke,bZ]
   have hfin:=HSk.out
   rw [ht,← HW.out] at hfin
   have HFIN:=aF hfin
   clear hke ht hfin
   go_wp2_with fail
   exact bodyPost_end (v:= .tuple #[]) (by simp [results,Tryz.results36,go_sem] <;> rfl) rfl ⟨rfl,HFIN.out,HXk.out⟩
end
end Go.Proofs.YtbnljlpefpllcaaGreatDoor
