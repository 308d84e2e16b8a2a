/-
  Parts of the proof: V2 V3 V48 E2 P9I PT E6 F1 V11.
-/
import Derived.Test.YtbnljlpefpllcaaGreatDoorME0
import Derived.Test.YtbnljlpefpllcaaGreatDoorME4
import Derived.Test.YtbnljlpefpllcaaGreatDoorSh
import Derived.Test.YtbnljlpefpllcaaGreatDoorME2
import Derived.Test.YtbnljlpefpllcaaGreatDoorME3
import Derived.Test.YtbnljlpefpllcaaGreatDoorSg
namespace Go.Proofs.YtbnljlpefpllcaaGreatDoor
set_option maxRecDepth 100000
set_option maxHeartbeats 16000000
section
open Go Go.RowKit Go.Shelf
theorem xAM (c:UInt8):(c.toNat:Int).toNat.toUInt8=c:=by simp
theorem oV (s:ByteArray) (k:Nat) (h:k<s.size):s.data.toList.drop k=s[k] :: s.data.toList.drop (k+1):=by
 rw [cI (by simpa using h)]
 rfl
theorem uJ (s:ByteArray) (k:Nat) (h:s.size≤k):s.data.toList.drop k=[]:=bD (by simpa using h)
theorem fB (s:ByteArray):s.data.toList.length=s.size:=by simp
theorem nE (b:Nat) (x:UInt8) (v:Bool) (w:World) (hc:w.cell? ⟨b,x.toNat,none⟩=some (.bool v)):
 Calls Tryz.prog 195 #[.pointer (some ⟨b,0,none⟩),.int .u8 x.toNat] w fun e w'=>e = .returned (.bool v)∧w'=w:=Tryz.asciiSet_contains b x v w hc
theorem sN {p:UInt8→Bool} {c:UInt8} {r:List UInt8} (h:p c=true):(c :: r).dropWhile p=r.dropWhile p:=by simp [h]
theorem xAB {p:UInt8→Bool} {c:UInt8} {r:List UInt8} (h:p c=false):(c :: r).dropWhile p=c :: r:=by simp [h]
theorem xI (s:ByteArray) (b:Nat) (p:UInt8→Bool) (w:World) (hset:∀x:UInt8,w.cell? ⟨b,x.toNat,none⟩=some (.bool (p x))):
 Calls Tryz.prog 157 #[.string s,.pointer (some ⟨b,0,none⟩)] w fun e w'=>(∃t,e = .returned (.string t)∧t.data.toList=s.data.toList.dropWhile p)∧w'=w:=by
 have HS:=aF hset
 clear hset
 go_enter Tryz.func157,Tryz.ntmps157
 go_wp2_with fail
 go_loop [0] (fun v=>∃t:ByteArray,v = .string t∧t.size≤s.size∧Hid (s.data.toList.dropWhile p=t.data.toList.dropWhile p)) (fun v=>Lib.strSize v)
 case atStart=>exact ⟨s,rfl,aW _,aF rfl⟩
 case round=>
  obtain ⟨t,rfl,hle,hp⟩:=hrel
  by_cases h0:0<t.size
  ·have hd:=oV t 0 h0
   rw [bW] at hd
   have hcx:=HS.out t[0]
   cases hin:p t[0]
   ·rw [hin] at hcx
    have HA:=aF (nE b t[0] false w hcx)
    have HF:Hid (t.data.toList=s.data.toList.dropWhile p):=aF (by rw [hp.out,hd,xAB hin])
    clear hd hcx hin hp
    go_wp2_with (go_at_call 195;refine HA.out.mono ?_;rintro e w' ⟨rfl,hw⟩;obtain rfl:=hw.symm)
    go_ret
    exact ⟨⟨t,rfl,HF.out⟩,rfl⟩
   ·rw [hin] at hcx
    have HA:=aF (nE b t[0] true w hcx)
    have HF:Hid (s.data.toList.dropWhile p=(t.extract 1 t.size).data.toList.dropWhile p):=aF (by rw [hp.out,hd,sN hin,Lib.extract_to_end])
    clear hd hcx hin hp
    go_wp2_with (go_at_call 195;refine HA.out.mono ?_;rintro e w' ⟨rfl,hw⟩;obtain rfl:=hw.symm)
    go_round
    case rel=>exact ⟨t.extract 1 t.size,rfl,by simp;omega,HF⟩
    case measure=>rw [Lib.strSize_string,Lib.strSize_string];simp;omega
  ·have h00:t.size=0:=by omega
   have hnil:t.data.toList=[]:=bU (by rw [fB];omega)
   have HF:Hid (t.data.toList=s.data.toList.dropWhile p):=aF (by rw [hp.out,hnil];rfl)
   clear hnil hp h0
   go_wp2_with fail
   go_ret
   exact ⟨⟨t,rfl,HF.out⟩,rfl⟩
structure trimRP (s t:ByteArray) (p:UInt8→Bool):Prop where
 one:t.data.toList.all p=true→t.size=0
 two:t.size=0→s.data.toList.all p=true
 three:s.data.toList.all p=true→t.data.toList.all p=true
theorem xH (s:ByteArray) (b:Nat) (p:UInt8→Bool) (w:World) (hs:s.size≤9223372036854775807) (hset:∀x:UInt8,w.cell? ⟨b,x.toNat,none⟩=some (.bool (p x))):
 Calls Tryz.prog 158 #[.string s,.pointer (some ⟨b,0,none⟩)] w fun e w'=>(∃t,e = .returned (.string t)∧trimRP s t p)∧w'=w:=by
 have HS:=aF hset
 clear hset
 go_enter Tryz.func158,Tryz.ntmps158
 go_wp2_with fail
 go_loop [0] (fun v=>∃t:ByteArray,v = .string t∧t.size≤s.size∧Hid (s.data.toList.all p=t.data.toList.all p)) (fun v=>Lib.strSize v)
 case atStart=>exact ⟨s,rfl,aW _,aF rfl⟩
 case round=>
  obtain ⟨t,rfl,hle,hp⟩:=hrel
  by_cases h0:0<t.size
  ·have hk:t.size - 1<t.size:=by omega
   have hd:t.data.toList=(t.extract 0 (t.size - 1)).data.toList ++ [t[t.size - 1]]:=by
    have h1:=oV t (t.size - 1) hk
    rw [show t.size - 1+1=t.size by omega,uJ t t.size (aW _)] at h1
    rw [← h1,Lib.extract_data,bW,Nat.sub_zero,cG]
   have hcx:=HS.out t[t.size - 1]
   have hw1:((t.size:Int) - 1)=((t.size - 1:Nat):Int):=by omega
   cases hin:p t[t.size - 1]
   ·rw [hin] at hcx
    have HA:=aF (nE b t[t.size - 1] false w hcx)
    have HF:Hid (t.data.toList.all p=false):=aF (by rw [hd];simp [hin])
    clear hd hcx hin
    go_wp2_with (go_at_call 195;refine HA.out.mono ?_;rintro e w' ⟨rfl,hw⟩;obtain rfl:=hw.symm)
    go_ret
    refine ⟨⟨t,rfl,fun h=>?_,fun h=>by omega,fun h=>by rw [← hp.out];exact h⟩,rfl⟩
    rw [HF.out] at h
    cases h
   ·rw [hin] at hcx
    have HA:=aF (nE b t[t.size - 1] true w hcx)
    have HF:Hid (s.data.toList.all p=(t.extract 0 (t.size - 1)).data.toList.all p):=aF (by rw [hp.out,hd,List.all_append,cB,hin];simp)
    clear hd hcx hin hp
    go_wp2_with (go_at_call 195;refine HA.out.mono ?_;rintro e w' ⟨rfl,hw⟩;obtain rfl:=hw.symm)
    go_round
    case rel=>exact ⟨t.extract 0 (t.size - 1),rfl,by simp;omega,HF⟩
    case measure=>rw [Lib.strSize_string,Lib.strSize_string];simp;omega
  ·have h00:t.size=0:=by omega
   have hnil:t.data.toList=[]:=bU (by rw [fB];omega)
   have HF:Hid (s.data.toList.all p=true∧t.data.toList.all p=true):=aF (by rw [hp.out,hnil];exact ⟨rfl,rfl⟩)
   clear hnil hp h0
   go_wp2_with fail
   go_ret
   exact ⟨⟨t,rfl,fun _=>h00,fun _=>HF.out.1,fun _=>HF.out.2⟩,rfl⟩
theorem xEH {p:UInt8→Bool}:∀{l:List UInt8},l.dropWhile p=[]→l.all p=true
 | [],_=>rfl
 | c :: r,h=>by
   cases hc:p c
   ·rw [xAB hc] at h;cases h
   ·rw [sN hc] at h
    simp only [cB,hc,xEH h,Bool.and_self]
theorem xEI {p:UInt8→Bool}:∀{l:List UInt8},l.all p=true→l.dropWhile p=[]
 | [],_=>rfl
 | c :: r,h=>by
   simp only [cB,bP] at h
   rw [sN h.1,xEI h.2]
def lettersA:ByteArray:=⟨#[95,97,98,99,100,101,102,103,104,105,106,107,108,109,110,111,112,113,114,115,116,117,118,119,120,121,122,65,66,67,68,69,70,71,72,73,74,75,76,77,78,79,80,81,82,83,84,85,86,87,88,89,90,48,49,50,51,52,53,54,55,56,57]⟩
theorem xGE:(Tryz.prog.info? 218).map (fun i=>(i.zero,i.size))=some (some (.agg (Array.replicate 256 (.bool false))),256):=by kernel_rfl
theorem xEL:∀w,(zeroValue 218).run Tryz.prog w = .ok (.agg (Array.replicate 256 (.bool false))) w:=fun w=>by
 have h:=xGE
 cases hi:Tryz.prog.info? 218 with
 | none=>rw [hi] at h;cases h
 | some i=>
   rw [hi] at h
   simp at h
   simp [zeroValue,typeInfo,hi,h.1]
theorem xAQ {l:List UInt8} (h:l.all (fun c=>decide (c.toNat<128))=true):∀(j:Nat) b,l[j]?=some b→b.toNat<128:=fun j b hj=>by
 simpa using List.all_eq_true.1 h b (List.mem_of_getElem? hj)
theorem xBG (s:ByteArray) (w:World) (h0:0<s.size) (hs:s.size≤9223372036854775807):
 Calls Tryz.prog 114 #[.string s,.string lettersA] w fun e w'=>(∃t,e = .returned (.string t)∧(t.size=0↔s.data.toList.all (fun c=>lettersA.data.toList.contains c)=true))∧Below w.heap.size w w':=by
 have hM:=Tryz.strings_makeASCIISet xEL lettersA w (by decide) (xAQ (by decide))
 have hn1:((lettersA.size:Int) == 1)=false:=by decide
 have hemp:lettersA.toList.isEmpty=false:=by rw [Lib.toList_data];rfl
 have hc0:2≤lettersA.size:=by decide
 generalize lettersA=cutset at *
 have hemps:s.toList.isEmpty=false:=by
  rw [Lib.toList_data]
  cases h:s.data.toList with
  | nil=>have:=Lib.size_eq s;rw [h,bO] at this;omega
  | cons _ _=>rfl
 have hsc:(storeCells ⟨w.heap.size+1,0,none⟩ (Lib.setCells cutset.data.toList).toList 0).run Tryz.prog ((w.alloc (.cells (Lib.setCells cutset.data.toList) 218)).alloc (.cells (Array.replicate 256 (.bool false)) 218)) = .ok () ((w.alloc (.cells (Lib.setCells cutset.data.toList) 218)).alloc (.cells (Lib.setCells cutset.data.toList) 218)):=by
  have:=run_storeCells_new (P:=Tryz.prog) (w.alloc (.cells (Lib.setCells cutset.data.toList) 218)) 218 (Array.replicate 256 (.bool false)) (Lib.setCells cutset.data.toList) (by rw [Lib.setCells_size];kernel_rfl) (by rw [Lib.setCells_size,Array.size_replicate]) (Lib.setCells_one _)
  simpa using this
 have hsz:=Lib.setCells_size cutset.data.toList
 have hz:Tryz.zeroCells218=Array.replicate 256 (.bool false):=by kernel_rfl
 obtain ⟨W,hW⟩:∃W,((w.alloc (.cells (Lib.setCells cutset.data.toList) 218)).alloc (.cells (Lib.setCells cutset.data.toList) 218))=W:=⟨_,rfl⟩
 have hcellAt:∀x:UInt8,W.cell? ⟨w.heap.size+1,x.toNat,none⟩=some (.bool (cutset.data.toList.contains x)):=fun x=>by
  rw [← hW,World.cell?_alloc_at _ _ _ _ (by simp),Lib.setCells_at]
 have hB:Below w.heap.size w W:=by rw [← hW];exact ((aV _ _).alloc (aW _) _).alloc (by simp) _
 have HR:=aF (xH s (w.heap.size+1) (fun c=>cutset.data.toList.contains c) W hs hcellAt)
 have HL:=aF (fun t=>xI t (w.heap.size+1) (fun c=>cutset.data.toList.contains c) W hcellAt)
 have HB:=aF hB
 clear hcellAt hB hs
 go_enter Tryz.func114,Tryz.ntmps114
 go_wp2_with (first
  | (go_at_call 156;refine hM.mono ?_;rintro e w' ⟨rfl,hw⟩;rw [hw])
  | (go_at_call 158;refine HR.out.mono ?_;rintro e w' ⟨⟨t,rfl,ht⟩,hw⟩;obtain rfl:=hw.symm)
  | (go_at_call 157;refine (HL.out _).mono ?_;rintro e w' ⟨⟨u,rfl,hu⟩,hw⟩;obtain rfl:=hw.symm))
 go_ret
 refine ⟨⟨u,rfl,⟨fun h=>?_,fun h=>?_⟩⟩,HB.out⟩
 ·have h1:u.data.toList=[]:=bU (by rw [fB];exact h)
  exact ht.two (ht.one (xEH (hu ▸ h1)))
 ·have h1:=xEI (ht.three h)
  rw [← fB,hu,h1]
  rfl
def digitsA:ByteArray:=⟨#[48,49,50,51,52,53,54,55,56,57]⟩
theorem xBW (c:UInt8):lettersA.data.toList.contains c=(isLet c || isDig c):=by
 have h:∀n,n<256→lettersA.data.toList.contains (UInt8.ofNat n)=(isLet (UInt8.ofNat n) || isDig (UInt8.ofNat n)):=by decide +kernel
 have:=h c.toNat c.toNat_lt
 simpa using this
theorem xFF (c:UInt8):digitsA.data.toList.contains c=isDig c:=by
 have h:∀n,n<256→digitsA.data.toList.contains (UInt8.ofNat n)=isDig (UInt8.ofNat n):=by decide +kernel
 have:=h c.toNat c.toNat_lt
 simpa using this
theorem xGC (c:UInt8):isLet c=true→isDig c=false:=by
 intro h
 simp only [isLet,isDig,Bool.or_eq_true,decide_eq_true_eq,decide_eq_false_iff_not] at *
 omega
theorem uE (l:List UInt8):qT l=(decide (1≤l.length) && decide (l.length≤255) && !(l.head?.any isDig) && l.all (fun c=>isLet c || isDig c)):=by
 cases l with
 | nil=>rfl
 | cons c r=>
   have:=xGC c
   simp only [qT,bJ,List.head?_cons,Option.any_some,cB]
   cases h1:isLet c <;> cases h2:isDig c <;> simp_all [Bool.and_comm]
theorem index_of_mem (c:UInt8):∀l:List UInt8,(0≤Lib.indexByte l c∧l.contains c=true)∨(Lib.indexByte l c = -1∧l.contains c=false)
 | []=>Or.inr ⟨rfl,rfl⟩
 | b :: l=>by
   unfold Lib.indexByte
   by_cases hb:b=c
   ·subst hb
    exact Or.inl ⟨by simp,by simp⟩
   ·have hb2:(b == c)=false:=by simpa using hb
    have hb3:(c == b)=false:=by simpa using fun h=>hb h.symm
    rw [hb2,List.contains_cons,hb3]
    rcases index_of_mem c l with ⟨h1,h2⟩ | ⟨h1,h2⟩
    ·refine Or.inl ⟨?_,by simpa using h2⟩
     have:(Lib.indexByte l c == -1)=false:=by simp;omega
     rw [this]
     simp
     omega
    ·refine Or.inr ⟨?_,by simpa using h2⟩
     rw [h1]
     rfl
theorem zH {s:ByteArray} (h:s.size=0):isIdent s=false:=by
 have:s.data.toList=[]:=bU (by rw [fB];exact h)
 unfold isIdent
 rw [this]
 rfl
theorem eX (s:ByteArray) (w:World):
 Calls Tryz.prog 68 #[.string s] w fun e w'=>e = .returned (.bool (isIdent s))∧Below w.heap.size w w':=by
 by_cases h0:s.size=0
 ·have HI:=aF (zH h0)
  have hemp:s.toList.isEmpty=true:=by
   rw [Lib.toList_data,show s.data.toList=[] from bU (by rw [fB];exact h0)];rfl
  go_enter Tryz.func68,Tryz.ntmps68
  go_wp2_with fail
  go_ret
  exact ⟨by rw [HI.out];rfl,aV _ _⟩
 ·have hd:=oV s 0 (by omega)
  obtain ⟨c,hc⟩:∃c,s[0]'(by omega)=c:=⟨_,rfl⟩
  rw [bW,hc] at hd
  have hlen:=fB s
  have hemp:s.toList.isEmpty=false:=by
   rw [Lib.toList_data,hd];rfl
  have HI:Hid (isIdent s=(decide (1≤s.size) && decide (s.size≤255) && !(isDig c) && s.data.toList.all (fun c=>lettersA.data.toList.contains c))):=aF (by
   unfold isIdent
   rw [uE,hlen,hd]
   simp only [List.head?_cons,Option.any_some,xBW])
  have hx:=index_of_mem c digitsA.data.toList
  rw [xFF] at hx
  have hib:=Tryz.strings_IndexByte digitsA c.toNat w
  rw [xAM] at hib
  generalize Lib.indexByte digitsA.data.toList c=j at hx hib
  have HIB:=aF hib
  obtain ⟨dg,hdg⟩:∃dg,isDig c=dg:=⟨_,rfl⟩
  rw [hdg] at hx HI
  clear hd hdg hlen hib
  by_cases h1:s.size≤255
  ·have HT:=aF (xBG s w (by omega) (by omega))
   rcases hx with ⟨hj,rfl⟩ | ⟨rfl,rfl⟩
   ·go_enter Tryz.func68,Tryz.ntmps68
    go_wp2_with (go_at_call 113;refine HIB.out.mono ?_;rintro e' w' ⟨rfl,hw'⟩;obtain rfl:=hw'.symm)
    go_ret
    exact ⟨by rw [HI.out];simp,aV _ _⟩
   ·go_enter Tryz.func68,Tryz.ntmps68
    go_wp2_with (first
     | (go_at_call 113;refine HIB.out.mono ?_;rintro e' w' ⟨rfl,hw'⟩;obtain rfl:=hw'.symm)
     | (go_at_call 114;refine HT.out.mono ?_;rintro e' w1 ⟨⟨t,rfl,ht⟩,hb1⟩))
    go_ret
    refine ⟨?_,hb1⟩
    have he:t.toList.isEmpty=s.data.toList.all (fun c=>lettersA.data.toList.contains c):=by
     rw [bQ,← ht,Lib.toList_data,List.isEmpty_iff,← List.length_eq_zero_iff,fB]
    rw [HI.out,← he]
    simp [h1]
    omega
  ·go_enter Tryz.func68,Tryz.ntmps68
   go_wp2_with fail
   go_ret
   exact ⟨by rw [HI.out];simp [h1],aV _ _⟩
theorem xGB (c:UInt8):isLet c=((decide (97≤(c.toNat:Int)) && decide ((c.toNat:Int)≤122)) || (decide (65≤(c.toNat:Int)) && decide ((c.toNat:Int)≤90)) || decide ((c.toNat:Int)=95)):=by
 rw [bQ]
 simp only [isLet,Bool.or_eq_true,bP,decide_eq_true_eq]
 omega
def okAt (k:Nat) (c:UInt8):Bool:=isLet c || (decide (k≠0) && isDig c)
def okFrom:Nat→List UInt8→Bool
 | _,[]=>true
 | k,c :: r=>okAt k c && okFrom (k+1) r
theorem lF:∀(l:List UInt8) (k:Nat),okFrom (k+1) l=l.all (fun c=>isLet c || isDig c)
 | [],_=>rfl
 | c :: r,k=>by simp [okFrom,okAt,lF r]
theorem wK (l:List UInt8):qT l=(okFrom 0 l && (decide (1≤l.length) && decide (l.length≤255))):=by
 cases l with
 | nil=>rfl
 | cons c r=>
   simp only [qT,okFrom,lF,okAt,bJ]
   rw [bQ]
   simp only [bP,Bool.or_eq_true,decide_eq_true_eq]
   constructor
   ·rintro ⟨⟨h1,h2⟩,h3⟩
    exact ⟨⟨.inl h1,h2⟩,by omega,by omega⟩
   ·rintro ⟨⟨h1,h2⟩,h3⟩
    exact ⟨⟨h1.resolve_right (by simp),h2⟩,by omega⟩
theorem fY (s:ByteArray) (w:World) (hs:s.size≤9223372036854775807):
 Calls Tryz.prog 67 #[.string s] w fun e w'=>e = .returned (.bool (isIdent s))∧w'=w:=by
 obtain ⟨R,hR⟩:∃R,okFrom 0 s.data.toList=R:=⟨_,rfl⟩
 have HR:Hid (isIdent s=(R && (decide (1≤s.size) && decide (s.size≤255)))):=aF (by unfold isIdent;rw [wK,hR,fB])
 generalize isIdent s=q at HR ⊢
 have HR0:=aF hR
 clear hR
 go_enter Tryz.func67,Tryz.ntmps67
 go_wp2_with fail
 go_loop [3] (fun v=>∃k:Nat,k≤s.size∧v = .int .i64 k∧Hid (R=okFrom k (s.data.toList.drop k))) (fun v=>s.size - (intOf v).toNat)
 case atStart=>exact ⟨0,Nat.zero_le _,rfl,aF HR0.out.symm⟩
 case round=>
  obtain ⟨k,hk,rfl,hr⟩:=hrel
  by_cases hlt:k<s.size
  ·have hd:=oV s k hlt
   obtain ⟨c,hc⟩:∃c,s[k]=c:=⟨_,rfl⟩
   rw [hc] at hd
   have hcb:c.toNat<256:=c.toNat_lt
   obtain ⟨y,hy⟩:∃y,c.toNat=y:=⟨_,rfl⟩
   have HOK:Hid (okAt k c=((decide (97≤(y:Int)) && decide ((y:Int)≤122)) || (decide (65≤(y:Int)) && decide ((y:Int)≤90)) || decide ((y:Int)=95) || (decide (k≠0) && (decide (48≤(y:Int)) && decide ((y:Int)≤57))))):=aF (by
    rw [← hy]
    unfold okAt
    rw [xGB,show isDig c=(decide (48≤(c.toNat:Int)) && decide ((c.toNat:Int)≤57)) by rw [bQ];simp only [isDig,bP,decide_eq_true_eq];omega])
   have HN:Hid (R=(okAt k c && okFrom (k+1) (s.data.toList.drop (k+1)))):=aF (by rw [hr.out,hd];rfl)
   rw [hy] at hcb
   have hcy:s[k].toNat=y:=by rw [hc,hy]
   clear hd hr
   cases hz:okAt k c
   ·have HZ:Hid (R=false):=aF (by rw [HN.out,hz];rfl)
    rw [hz] at HOK
    clear hz HN
    go_wp2_with fail
    all_goals first
     | (go_ret;exact ⟨by rw [HR.out,HZ.out];rfl,rfl⟩)
     | (exfalso;have:=HOK.out;clear HOK HZ HR HR0;grind)
   ·have HZ:Hid (R=okFrom (k+1) (s.data.toList.drop (k+1))):=aF (by rw [HN.out,hz];rfl)
    rw [hz] at HOK
    clear hz HN
    go_wp2_with fail
    all_goals first
     | (go_round
        case rel=>exact ⟨k+1,by omega,by go_num,HZ⟩
        case measure=>simp [intOf];omega)
     | (exfalso;have:=HOK.out;clear HOK HZ HR HR0;grind)
  ·have HQ:Hid (q=(decide (1≤s.size) && decide (s.size≤255))):=aF (by rw [HR.out,hr.out,uJ s k (by omega)];rfl)
   clear hr HR
   rcases (show s.size<1∨(1≤s.size∧s.size≤255)∨255<s.size by omega) with h | ⟨h,h'⟩ | h
   ·obtain rfl:q=false:=by rw [HQ.out];simp;omega
    clear HQ
    go_wp2_with fail
    go_ret
    exact ⟨rfl,rfl⟩
   ·obtain rfl:q=true:=by rw [HQ.out];simp;omega
    clear HQ
    go_wp2_with fail
    go_ret
    exact ⟨by simp;omega,rfl⟩
   ·obtain rfl:q=false:=by rw [HQ.out];simp;omega
    clear HQ
    go_wp2_with fail
    go_ret
    exact ⟨by simp;omega,rfl⟩
end
section
open Go Go.RowKit Go.Maps
def seenF (ns:List ByteArray) (l:List UInt8):Bool:=ns.any (fun s=>decide (s.data.toList=l))
theorem rD {s t:ByteArray} (h:s.data.toList=t.data.toList):s=t:=by
 cases s;cases t
 simpa using h
theorem pQ (ns:List ByteArray) (s:ByteArray):seenF ns s.data.toList=memN s ns:=by
 unfold seenF memN
 congr 1
 funext x
 rw [decide_eq_decide]
 exact ⟨rD,fun h=>by rw [h]⟩
theorem pP (ns:List ByteArray) (s:ByteArray):strF (seenF (s :: ns)) (.string s.data.toList)=true:=by
 simp [strF,seenF]
theorem pO (ns:List ByteArray) (s:ByteArray):∀x,x≠Lit.string s.data.toList→strF (seenF (s :: ns)) x=strF (seenF ns) x:=by
 intro x hx
 cases x <;> try rfl
 rename_i l
 have:s.data.toList≠l:=fun h=>hx (by rw [h])
 simp [strF,seenF,this]
theorem tK:strF (seenF [])=fun _=>false:=by
 funext x
 cases x <;> rfl
theorem law9:Keyed Tryz.prog 9:=string_keyed Tryz.underlying9
theorem wJ {s:ByteArray} (h:isIdent s=true):s.size≤255:=by
 unfold isIdent at h
 rw [uE] at h
 simp only [bP,decide_eq_true_eq,fB] at h
 omega
theorem key9 {s:ByteArray} (h:isIdent s=true):keyOf Tryz.prog 9 (.string s)=some (.string s.data.toList):=Go.WideMaps.keyOf_string_mk Tryz.underlying9 (by have:=wJ h;unfold maxLen;omega)
theorem zeroB:∀w,(zeroValue 4).run Tryz.prog w = .ok (.bool false) w:=Tryz.zeroValue4
theorem yW (l:List ByteArray) (A:Option Addr) (c:Nat) (w:World) (hs:Slc 1 RN w A c l):
 Calls Tryz.prog 119 #[.slice A l.length c] w fun e' w'=>e' = .returned (.int .i64 (namesC l))∧Below w.heap.size w w':=by
 have hle:=hs.le
 have hbig:=hs.big
 unfold namesC
 by_cases h0:65535<l.length
 ·rw [aY h0]
  clear hs
  go_enter Tryz.func119,Tryz.ntmps119
  go_wp2_with fail
  go_ret
  exact ⟨rfl,aV _ _⟩
 rw [aX h0]
 obtain ⟨R,hR⟩:∃R,namesE [] l=R:=⟨_,rfl⟩
 rw [hR]
 have HR:=aF hR
 have HS:=aF hs
 clear hR hs
 have hmm:= @run_makeMap Tryz.prog
 go_enter Tryz.func119,Tryz.ntmps119
 go_wp2_with fail
 go_loopw [12] (fun v wr=>∃(k:Nat) (ns:List ByteArray),k≤l.length∧v = .int .i64 k∧OwnB Tryz.prog 9 4 wr w.heap.size k (strF (seenF ns))∧Hid (Below w.heap.size w wr)∧Hid (R=namesE ns (l.drop k))) (fun v _=>l.length - (intOf v).toNat)
 case atStart=>exact ⟨0,[],by omega,rfl,by rw [tK];exact OwnB.made _ _ _ _,aF ((aV _ _).alloc (aW _) _),aF HR.out.symm⟩
 case round=>
  obtain ⟨k,ns,hk,rfl,hown,hB,hr⟩:=hrel
  by_cases hlt:k<l.length
  ·have hd:=cU hlt
   obtain ⟨b,o,rfl,hb,hx⟩:=(HS.out.sl.keep RN.keeps hB.out.size hB.out).at_ hlt
   obtain ⟨s,hsx⟩:∃s,l[k]=s:=⟨_,rfl⟩
   rw [hsx] at hd hx
   have x0:wr.cell? ⟨b,o+k,none⟩=some (.string s):=by simpa [RN] using hx
   have HI:=aF (eX s wr)
   have HN:Hid (R=if isIdent s=false then 12 else if memN s ns=true then 21 else namesE (s :: ns) (l.drop (k+1))):=aF (by rw [hr.out,hd];rfl)
   have hsz:=hB.out.size
   clear hd hx hr hsx
   cases hid:isIdent s
   ·rw [hid] at HI HN
    clear hid hown
    go_wp2_with (go_at_call 68;refine HI.out.mono ?_;rintro e' w1 ⟨rfl,hb1⟩)
    go_ret
    exact ⟨by rw [HN.out];rfl,hB.out.trans (hb1.mono hsz)⟩
   ·have hkey:=key9 hid
    rw [hid] at HI HN
    have HM:=aF (pQ ns s)
    clear hid
    cases hm:memN s ns
    ·have HN':Hid (R=namesE (s :: ns) (l.drop (k+1))):=aF (by rw [HN.out,hm];rfl)
     have HF:Hid (strF (seenF ns) (.string s.data.toList)=false):=aF (by simp only [strF];rw [HM.out,hm])
     clear hm HN HM
     go_wp2_with (first
      | (go_at_call 68;refine HI.out.mono ?_;rintro e' w1 ⟨rfl,hb1⟩;have hown1:=hown.below hb1)
      | (at_lookup;refine dI _ rfl _ _ 235 rfl 9 4 law9 Tryz.underlying235 Tryz.underlying4 (zeroB _) _ _ _ rfl hown1 _ _ rfl hkey ?_;rw [HF.out])
      | (at_mapUpdate;refine eS _ rfl _ _ _ 235 rfl 9 4 law9 Tryz.underlying235 Tryz.underlying4 _ _ _ rfl hown1 (by unfold maxLen;omega) _ _ _ rfl rfl hkey trivial _ (pP ns s) (pO ns s) ?_;intro w2 hown2 hg2))
     go_roundw
     case rel=>exact ⟨k+1,s :: ns,by omega,by go_num,hown2,aF ((hB.out.trans (hb1.mono hsz)).trans (eP hg2 (aW _) (bX hsz hb1.size))),HN'⟩
     case measure=>simp [intOf];omega
    ·have HN':Hid (R=21):=aF (by rw [HN.out,hm];rfl)
     have HF:Hid (strF (seenF ns) (.string s.data.toList)=true):=aF (by simp only [strF];rw [HM.out,hm])
     clear hm HN HM
     go_wp2_with (first
      | (go_at_call 68;refine HI.out.mono ?_;rintro e' w1 ⟨rfl,hb1⟩;have hown1:=hown.below hb1)
      | (at_lookup;refine dI _ rfl _ _ 235 rfl 9 4 law9 Tryz.underlying235 Tryz.underlying4 (zeroB _) _ _ _ rfl hown1 _ _ rfl hkey ?_;rw [HF.out]))
     go_ret
     exact ⟨by rw [HN'.out];rfl,hB.out.trans (hb1.mono hsz)⟩
  ·have HN:Hid (R=0):=aF (by rw [hr.out,bD (by omega)];rfl)
   clear hr hown
   go_wp2_with fail
   go_ret
   exact ⟨by rw [HN.out];rfl,hB.out⟩
def bxW (w:World) (b:Bdy) (h:BH):World:=w.alloc (.cells (bdC b h).toArray 28)
theorem oY (w:World) (b:Bdy) (h:BH):(bxW w b h).heap.size=w.heap.size+1:=by simp [bxW]
theorem lV (w:World) (b:Bdy) (h:BH):Below w.heap.size w (bxW w b h):=(aV _ _).alloc (aW _) _
theorem oX {w wr:World} {b:Bdy} {h:BH} (hB:Below (w.heap.size+1) (bxW w b h) wr) (i:Nat) (v:Value) (hi:(bdC b h)[i]?=some v):wr.cell? ⟨w.heap.size,i,none⟩=some v:=by
 refine (hB.cell (p:=⟨w.heap.size,i,none⟩) (by simp)).trans ?_
 rw [bxW,World.cell?_alloc_at _ _ _ _ (by simp)]
 simpa using hi
theorem nA {w wr:World} {b:Bdy} {h:BH} (hB:Below (w.heap.size+1) (bxW w b h) wr):Below w.heap.size w wr:=
 (lV w b h).trans (hB.mono (by omega))
theorem rH (w:World) (x y:Value) (t:TypeId):(w.alloc (.cells #[x,y] t)).cell? ⟨w.heap.size,0,none⟩=some x∧(w.alloc (.cells #[x,y] t)).cell? ⟨w.heap.size,1,none⟩=some y:=by
 constructor <;> (rw [World.cell?_alloc_at _ _ _ _ (by simp)];rfl)
theorem keepA {w W:World} {o:Obj} {p:Addr} {v:Value} (hb:Below (w.alloc o).heap.size (w.alloc o) W) (h:w.cell? p=some v):W.cell? p=some v:=
 cell_keep hb (((((aV w.heap.size w).alloc (aW _) o).cell (p:=p) (cD w p h))).trans h)
theorem wE (b:Bdy) (bh:BH) (w:World) (H:BdAt w b bh):
 Calls Tryz.prog 122 #[.agg (bdC b bh).toArray] w fun e' w'=>e' = .returned (.int .i64 (localsC b))∧Below w.heap.size w w':=by
 obtain ⟨A1,c1,A2,c2,A3,c3,A4,c4,A5,c5⟩:=bh
 have hle:=H.loc.le
 have hbig:=H.loc.big
 have HLOC:=aF H.loc
 have htl:=H.typ.le
 have htb:=H.typ.big
 unfold localsC
 clear H
 unfold bdC
 simp only at hle hbig htl htb HLOC ⊢
 have HBX:=aF (lV w b ⟨A1,c1,A2,c2,A3,c3,A4,c4,A5,c5⟩)
 by_cases h0:65535<b.locals.length
 ·rw [aY h0]
  go_enter Tryz.func122,Tryz.ntmps122
  go_wp2_with fail
  go_ret
  exact ⟨rfl,HBX.out⟩
 rw [aX h0]
 obtain ⟨R,hR⟩:∃R,localsE b.types.length [] b.locals=R:=⟨_,rfl⟩
 rw [hR]
 have HR:=aF hR
 clear hR
 obtain ⟨Q,hQ⟩:∃Q,(if R=0 then (if b.args<0∨(b.locals.length:Int)<b.args then 3 else 0) else R)=Q:=⟨_,rfl⟩
 rw [hQ]
 have HQ:=aF hQ
 clear hQ
 have hmm:= @run_makeMap Tryz.prog
 go_enter Tryz.func122,Tryz.ntmps122
 go_wp2_with fail
 go_loopw [14] (fun v wr=>∃(k:Nat) (ns:List ByteArray),k≤b.locals.length∧v = .int .i64 k∧OwnB Tryz.prog 9 4 wr (w.heap.size+1) k (strF (seenF ns))∧Hid (Below (w.heap.size+1) (bxW w b ⟨A1,c1,A2,c2,A3,c3,A4,c4,A5,c5⟩) wr)∧Hid (R=localsE b.types.length ns (b.locals.drop k))) (fun v _=>b.locals.length - (intOf v).toNat)
 case atStart=>exact ⟨0,[],by omega,rfl,by rw [tK];have:=OwnB.made (bxW w b ⟨A1,c1,A2,c2,A3,c3,A4,c4,A5,c5⟩) Tryz.prog 9 4;rw [oY] at this;exact this,aF ((aV _ (bxW w b ⟨A1,c1,A2,c2,A3,c3,A4,c4,A5,c5⟩)).alloc (by rw [oY];omega) _),aF HR.out.symm⟩
 case round=>
  obtain ⟨k,ns,hk,rfl,hown,hB,hr⟩:=hrel
  have x3:=oX hB.out 3 _ rfl
  have x4:=oX hB.out 4 _ rfl
  have x5:=oX hB.out 5 _ rfl
  have hsz:=hB.out.size
  rw [oY] at hsz
  by_cases hlt:k<b.locals.length
  ·have hd:=cU hlt
   obtain ⟨bb,o,rfl,hb,hx⟩:=(HLOC.out.sl.keep RLc.keeps (bX (Nat.le_succ _) hsz) (nA hB.out)).at_ hlt
   obtain ⟨s,hsx⟩:∃s,b.locals[k]=s:=⟨_,rfl⟩
   rw [hsx] at hd hx
   obtain ⟨y0,y1⟩:=hx
   have hls:=dL hb
   have HN:Hid (R=if isIdent s.name=false then 12 else if memN s.name ns=true then 21 else if s.type<0∨(b.types.length:Int)≤s.type then 3 else localsE b.types.length (s.name :: ns) (b.locals.drop (k+1))):=aF (by rw [hr.out,hd];rfl)
   clear hd hr hsx
   cases hid:isIdent s.name
   ·have HF:Hid (Q=12):=aF (by rw [← HQ.out,HN.out,hid];rfl)
    have HI:Hid (∀W,Calls Tryz.prog 68 #[.string s.name] W fun e w'=>e = .returned (.bool false)∧Below W.heap.size W w'):=aF (fun W=>by rw [← hid];exact eX s.name W)
    clear hid hown HN
    go_wp2_with (go_at_call 68;refine (HI.out _).mono ?_;rintro e' w1 ⟨rfl,hb1⟩)
    go_ret
    exact ⟨by rw [HF.out];rfl,((nA hB.out).alloc (by omega) _).trans (hb1.mono (by simp;omega))⟩
   ·have hkey:=key9 hid
    have HI:Hid (∀W,Calls Tryz.prog 68 #[.string s.name] W fun e w'=>e = .returned (.bool true)∧Below W.heap.size W w'):=aF (fun W=>by rw [← hid];exact eX s.name W)
    have HM:=aF (pQ ns s.name)
    rw [hid] at HN
    clear hid
    cases hm:memN s.name ns
    case true=>
     have HF:Hid (Q=21):=aF (by rw [← HQ.out,HN.out,hm];rfl)
     have HS:Hid (strF (seenF ns) (.string s.name.data.toList)=true):=aF (by simp only [strF];rw [HM.out,hm])
     clear hm HN HM
     go_wp2_with (first
      | (go_at_call 68;refine (HI.out _).mono ?_;rintro e' w1 ⟨rfl,hb1⟩;have hown1:=(hown.alloc _).below hb1;obtain ⟨z0,z1⟩:=rH wr (.string s.name) (.int .i64 s.type) 87;replace z0:=cell_keep hb1 z0;replace z1:=cell_keep hb1 z1;have z3:=keepA hb1 x3)
      | (at_lookup;refine dI _ rfl _ _ 235 rfl 9 4 law9 Tryz.underlying235 Tryz.underlying4 (zeroB _) _ _ _ rfl hown1 _ _ rfl hkey ?_;rw [HS.out]))
     go_ret
     exact ⟨by rw [HF.out];rfl,((nA hB.out).alloc (by omega) _).trans (hb1.mono (by simp;omega))⟩
    case false=>
     have HS:Hid (strF (seenF ns) (.string s.name.data.toList)=false):=aF (by simp only [strF];rw [HM.out,hm])
     rw [hm] at HN
     have HT:Hid ((s.type<0∨(b.types.length:Int)≤s.type)→Q=3):=aF (fun h=>by rw [← HQ.out,HN.out];simp only [Bool.true_eq_false,Bool.false_eq_true,if_false];rw [aY h];rfl)
     have HG:Hid (¬(s.type<0∨(b.types.length:Int)≤s.type)→R=localsE b.types.length (s.name :: ns) (b.locals.drop (k+1))):=aF (fun h=>by rw [HN.out];simp only [Bool.true_eq_false,Bool.false_eq_true,if_false];rw [aX h])
     clear hm HN HM
     by_cases hty:s.type<0∨(b.types.length:Int)≤s.type
     ·have HF:=aF (HT.out hty)
      clear HT HG
      go_wp2_with (first
       | (go_at_call 68;refine (HI.out _).mono ?_;rintro e' w1 ⟨rfl,hb1⟩;have hown1:=(hown.alloc _).below hb1;obtain ⟨z0,z1⟩:=rH wr (.string s.name) (.int .i64 s.type) 87;replace z0:=cell_keep hb1 z0;replace z1:=cell_keep hb1 z1;have z3:=keepA hb1 x3)
       | (at_lookup;refine dI _ rfl _ _ 235 rfl 9 4 law9 Tryz.underlying235 Tryz.underlying4 (zeroB _) _ _ _ rfl hown1 _ _ rfl hkey ?_;rw [HS.out]))
      all_goals first
       | (exfalso;omega)
       | (go_ret
          exact ⟨by rw [HF.out];rfl,((nA hB.out).alloc (by omega) _).trans (hb1.mono (by simp;omega))⟩)
     ·have HF:=aF (HG.out hty)
      clear HT HG
      have e1:¬s.type<0:=by omega
      have e2:¬(b.types.length:Int)≤s.type:=by omega
      clear hty
      go_wp2_with (first
       | (go_at_call 68;refine (HI.out _).mono ?_;rintro e' w1 ⟨rfl,hb1⟩;have hown1:=(hown.alloc _).below hb1;obtain ⟨z0,z1⟩:=rH wr (.string s.name) (.int .i64 s.type) 87;replace z0:=cell_keep hb1 z0;replace z1:=cell_keep hb1 z1;have z3:=keepA hb1 x3)
       | (at_lookup;refine dI _ rfl _ _ 235 rfl 9 4 law9 Tryz.underlying235 Tryz.underlying4 (zeroB _) _ _ _ rfl hown1 _ _ rfl hkey ?_;rw [HS.out])
       | (at_mapUpdate;refine eS _ rfl _ _ _ 235 rfl 9 4 law9 Tryz.underlying235 Tryz.underlying4 _ _ _ rfl hown1 (by unfold maxLen;omega) _ _ _ rfl rfl hkey trivial _ (pP ns s.name) (pO ns s.name) ?_;intro w2 hown2 hg2))
      go_roundw
      case rel=>
       have hsz1:=hb1.size
       simp only [bH] at hsz1
       exact ⟨k+1,s.name :: ns,by omega,by go_num,hown2,aF (((hB.out.alloc (by omega) _).trans (hb1.mono (by simp;omega))).trans (eP hg2 (by omega) (by omega))),HF⟩
      case measure=>simp [intOf];omega
  ·have HN:Hid (R=0):=aF (by rw [hr.out,bD (by omega)];rfl)
   have HF:Hid (Q=if b.args<0∨(b.locals.length:Int)<b.args then 3 else 0):=aF (by rw [← HQ.out,HN.out,aY rfl])
   clear hr hown
   by_cases ha:b.args<0∨(b.locals.length:Int)<b.args
   ·rw [aY ha] at HF
    go_wp2_with fail
    all_goals first
     | (exfalso;omega)
     | (go_ret;exact ⟨by rw [HF.out];rfl,nA hB.out⟩)
   ·rw [aX ha] at HF
    have e1:¬b.args<0:=by omega
    have e2:¬(b.locals.length:Int)<b.args:=by omega
    clear ha
    go_wp2_with fail
    go_ret
    exact ⟨by rw [HF.out];rfl,nA hB.out⟩
end
section
open Go Go.RowKit
def idxN (s:ByteArray):Nat→List ByteArray→Int
 | _,[]=> -1
 | k,x :: r=>if x=s then k else idxN s (k+1) r
theorem jF (s:ByteArray):∀(k:Nat) (l:List ByteArray),(0≤idxN s k l↔memN s l=true)
 | _,[]=>by simp [idxN,memN]
 | k,x :: r=>by
   unfold idxN
   by_cases h:x=s
   ·rw [aY h]
    simp [memN,h]
   ·rw [aX h,jF s (k+1) r]
    simp [memN,h]
theorem jD (l:List ByteArray) (s:ByteArray) (A:Option Addr) (c:Nat) (w:World) (hs:Slc 1 RN w A c l):
 Calls Tryz.prog 40 #[.slice A l.length c,.string s] w fun e' w'=>e' = .returned (.int .i64 (idxN s 0 l))∧w'=w:=by
 have hle:=hs.le
 have hbig:=hs.big
 obtain ⟨R,hR⟩:∃R,idxN s 0 l=R:=⟨_,rfl⟩
 rw [hR]
 have HR:=aF hR
 have HS:=aF hs
 clear hR hs
 go_enter Tryz.func40,Tryz.ntmps40
 go_wp2_with fail
 go_loop [5] (fun v=>∃k:Nat,k≤l.length∧v = .int .i64 k∧Hid (R=idxN s k (l.drop k))) (fun v=>l.length - (intOf v).toNat)
 case atStart=>exact ⟨0,by omega,rfl,aF HR.out.symm⟩
 case round=>
  obtain ⟨k,hk,rfl,hr⟩:=hrel
  by_cases hlt:k<l.length
  ·have hd:=cU hlt
   obtain ⟨b,o,rfl,hb,hx⟩:=HS.out.sl.at_ hlt
   obtain ⟨y,hy⟩:∃y,l[k]=y:=⟨_,rfl⟩
   rw [hy] at hd hx
   have x0:w.cell? ⟨b,o+k,none⟩=some (.string y):=by simpa [RN] using hx
   have HN:Hid (R=if y=s then (k:Int) else idxN s (k+1) (l.drop (k+1))):=aF (by rw [hr.out,hd];rfl)
   clear hx hy hd hr
   by_cases h0:y=s
   ·have HF:Hid (R=k):=aF (by rw [HN.out,aY h0])
    subst h0
    clear HN
    go_wp2_with fail
    all_goals first
     | (go_ret;exact ⟨by rw [HF.out];rfl,rfl⟩)
     | (exfalso;simp_all;done)
   ·have HF:Hid (R=idxN s (k+1) (l.drop (k+1))):=aF (by rw [HN.out,aX h0])
    have e1:(y.toList == s.toList)=false:=beq_false_of_ne (fun h=>h0 (rD (by rw [← Lib.toList_data,← Lib.toList_data];exact h)))
    clear HN h0
    go_wp2_with fail
    go_round
    case rel=>exact ⟨k+1,by omega,by go_num,HF⟩
    case measure=>simp [intOf];omega
  ·have HN:Hid (R = -1):=aF (by rw [hr.out,bD (by omega)];rfl)
   clear hr
   go_wp2_with fail
   go_ret
   exact ⟨by rw [HN.out];rfl,rfl⟩
def putI (i:Int):List UInt8:=putL i.toNat
def nameW (t:List ByteArray) (s:ByteArray):List UInt8:=putI (idxN s 0 t)
def pairW (p:Int × Int):List UInt8:=putI p.1 ++ putI p.2
def listW {α : Type} (f : α → List UInt8) (l:List α):List UInt8:=putL l.length ++ l.flatMap f
def typeW (x:Ty):List UInt8:=
 if x.kind=3 then (if x.mu=true then 5 else 3) :: (putI x.reg ++ putI x.elem)
 else if x.kind=4 then 4 :: listW putI x.flds
 else [x.kind.toNat.toUInt8]
def localW (t:List ByteArray) (x:Lc):List UInt8:=nameW t x.name ++ putI x.type
def declW (t:List ByteArray) (b:Bdy):List UInt8:=
 nameW t b.name ++ (listW (nameW t) b.regions ++ (listW pairW b.outl ++ (listW typeW b.types ++ (listW (localW t) b.locals ++ putI b.args))))
theorem uD (s:ByteArray):∀(l:List ByteArray) (k:Nat),memN s l=true→∃j,idxN s k l=((k+j:Nat):Int)∧l[j]?=some s
 | [],k,h=>by simp [memN] at h
 | x :: r,k,h=>by
   unfold idxN
   by_cases e:x=s
   ·exact ⟨0,by rw [aY e];rfl,by simp [e]⟩
   ·rw [aX e]
    have h':memN s r=true:=by simpa [memN,e] using h
    obtain ⟨j,h1,h2⟩:=uD s r (k+1) h'
    exact ⟨j+1,by rw [h1];congr 1;omega,by simpa using h2⟩
theorem tP (f n:Nat):0<(putF f n).length:=by
 cases f with
 | zero=>simp [putF]
 | succ f=>unfold putF;split <;> simp
def TyGood (x:Ty):Prop:=
 (x.kind=3∧(0≤x.reg∧x.reg≤65535)∧(0≤x.elem∧x.elem≤65535)∧x.flds=[])∨
 (x.kind=4∧x.mu=false∧x.reg=0∧x.elem=0∧x.flds.length≤65535∧∀i∈x.flds,0≤i∧i≤65535)∨
 (0≤x.kind∧x.kind≤2∧x.mu=false∧x.reg=0∧x.elem=0∧x.flds=[])
structure DGood (t:List ByteArray) (b:Bdy):Prop where
 tl:t.length≤65536
 name:memN b.name t=true
 rl:b.regions.length≤65535
 reg:∀s∈b.regions,memN s t=true
 ol:b.outl.length≤65535
 out:∀p∈b.outl,(0≤p.1∧p.1≤65535)∧(0≤p.2∧p.2≤65535)
 yl:b.types.length≤65535
 typ:∀x∈b.types,TyGood x
 ll:b.locals.length≤65535
 loc:∀x∈b.locals,memN x.name t=true∧(0≤x.type∧x.type≤65535)
 args:0≤b.args∧b.args≤65535
theorem vY (h g t:Nat) (T:Option Addr) (c:Nat) (tbl:List ByteArray) (s:Rs) (w:World) (H:DTab w h g t T c tbl) (hr:PRd w g s):
 Calls Tryz.prog 91 #[.pointer (some ⟨h,0,none⟩),.func (.func 50) #[.pointer (some ⟨h,0,none⟩)] #[]] w fun e' w'=>∃A c n,e' = .returned (.slice A n c)∧PRd w' g (listS numS s).2∧But g w w'∧
  ((listS numS s).2.err=0→(listS numS s).1.length=n∧w'.ownsRow w.heap.size 3 1 (.slice A n c) n ((listS numS s).1.flatMap (fun x=>[Value.int .i64 x]))):=by
 obtain ⟨i0,hi,hz0,hz1,hz2⟩:=info_parts eE
 have hC:=fZ g s w hr
 have hgl:=hr.lt
 have hD0:=H.c0
 have HH:=aF H
 have hnl:=jK 65535 s
 have hn0:=fN 65535 s
 obtain ⟨Q,hQ⟩:∃Q,listS numS s=Q:=⟨_,rfl⟩
 rw [hQ]
 unfold listS at hQ
 generalize countS 65535 s=K at *
 obtain ⟨n,s0⟩:=K
 simp only at hC hQ hnl hn0
 have HQ:=aF hQ
 have HC:=aF hC
 clear hQ hC hr H
 go_enter Tryz.func91,Tryz.ntmps91
 go_wp2_with (go_at_call 88;refine HC.out.mono ?_;rintro e' w1 ⟨rfl,hr1,hb1⟩;have HR1:=aF hr1;have HB1:=aF hb1;clear hr1 hb1)
 have hI0:∃(k:Nat) (sk:Rs) (ys:List Int),n - n=k∧k≤n∧ys.length=k∧w1.ownsRow w.heap.size 3 1 (.slice none 0 0) k (ys.flatMap (fun x=>[Value.int .i64 x]))∧PRd w1 g sk∧But g w w1∧(0<n→sk.err=0)∧Hid (Q=(ys ++ (itemsS numS (n - k) sk).1,(itemsS numS (n - k) sk).2)):=
  ⟨0,s0,[],by omega,by omega,rfl,World.ownsRow_nil _ _ _ _,HR1.out,HB1.out,fun h=>Decidable.byContradiction fun h1=>by have:=hn0 h1;omega,aF (by rw [← HQ.out];rfl)⟩
 have HI0:=aF hI0
 clear hI0 HR1 HB1 HC
 go_loopw [5,12] (fun v i wr=>∃(k:Nat) (sk:Rs) (ys:List Int),i = .int .i64 k∧k≤n∧ys.length=k∧wr.ownsRow w.heap.size 3 1 v k (ys.flatMap (fun x=>[Value.int .i64 x]))∧PRd wr g sk∧But g w wr∧(0<n→sk.err=0)∧Hid (Q=(ys ++ (itemsS numS (n - k) sk).1,(itemsS numS (n - k) sk).2))) (fun _ i _=>n - (intOf i).toNat)
 case atStart=>
  obtain ⟨k,sk,ys,hk,h1⟩:=HI0.out
  have:k=0:=by omega
  subst this
  exact ⟨0,sk,ys,rfl,h1⟩
 case round=>
  clear HI0
  obtain ⟨k,sk,ys,rfl,hk,hyl,hown,hrd,hbt,hsk,HQ2⟩:=hrel
  by_cases hlt:k<n
  ·have hsz:=hbt.size
   have hst:Hid (itemsS numS (n - k) sk=if (numS sk).2.err=0 then ((numS sk).1 :: (itemsS numS (n - (k+1)) (numS sk).2).1,(itemsS numS (n - (k+1)) (numS sk).2).2) else ([],(numS sk).2)):=aF (by
    rw [show n - k=(n - (k+1))+1 by omega]
    rfl)
   have HN:=aF (eZ h g t T c tbl sk wr (HH.out.but hbt) hrd)
   have HHW:=aF (HH.out.but hbt)
   generalize numS sk=Z at *
   obtain ⟨x,s'⟩:=Z
   simp only at hst HN
   have HOWN:=aF hown
   have HBT:=aF hbt
   clear hown hrd hbt
   go_wp2_with fail
   go_at_call 50
   refine HN.out.mono ?_
   rintro e' W3 ⟨rfl,hr3,hb3⟩
   have y0:=(HHW.out.but hb3).c0
   have HE:=aF (gZ g s' W3 hr3)
   have HR3:=aF hr3
   have HB3:=aF hb3
   clear hr3 hb3 HN
   by_cases he:s'.err=0
   ·rw [he] at HE
    rw [aY he] at hst
    skip
    have hown2:(W3.alloc (.cells #[.int .i64 x] 3)).ownsRow w.heap.size 3 1 u5 k (ys.flatMap (fun x=>[Value.int .i64 x])):=
     (cY HOWN.out (fun k hk1 hk2 _=>HB3.out.block k hk2 (by omega))).alloc _
    have hbw:But g w W3:=HBT.out.trans HB3.out
    have hwz:=hbw.size
    have HBW:=aF hbw
    clear hbw
    go_wp2_with (first
     | (at_builtin;refine wpList_append_own _ rfl _ _ 51 rfl w.heap.size 3 i0 (.int .i64 0) 1 8 Tryz.underlying51 hi hz0 hz1 hz2 rfl (by decide) _ _ _ rfl hown2 ⟨W3.heap.size,0,none⟩ 1 1 [.int .i64 x] rfl rfl ?c1 ?c2 ?c3 ?c4 ?c5 ?_)
     | (go_at_call 89;refine HE.out.mono ?_;rintro e' w3 ⟨rfl,hw⟩;obtain rfl:=hw.symm))
    case c1=>
     intro j u hj
     rw [add0]
     exact dZ W3 [.int .i64 x] 3 j u hj
    case c2=>intro u hu;simp at hu;(subst hu;rfl)
    case c3=>unfold maxLen;omega
    case c4=>omega
    case c5=>simp;omega
    intro v' w4 hown' hgrow _
    have hown3:w4.ownsRow w.heap.size 3 1 v' (k+1) ((ys ++ [x]).flatMap (fun x=>[Value.int .i64 x])):=by
     rw [cA,List.flatMap_singleton];exact hown'
    have hg4:∀j,j<w.heap.size→w4.heap[j]?=W3.heap[j]?:=fun j hj=>(hgrow.block j (by simp;omega) (dG hown2 hj)).trans (Below.heap_alloc _ _ _ (by omega))
    have hb4:But g w w4:=⟨hgrow.os.trans HBW.out.os,hgrow.tape.trans HBW.out.tape,hgrow.output.trans HBW.out.output,by have:=hgrow.size;simp at this;omega,fun j hj hne=>(hg4 j hj).trans (HBW.out.block j hj hne)⟩
    have hr4:PRd w4 g s':=HR3.out.low (by have:=hgrow.size;simp at this;omega) (fun j hj=>hg4 j (by omega))
    clear hown' hgrow hown2 hg4
    go_wp2_with fail
    go_roundw
    case rel=>exact ⟨k+1,s',ys ++ [x],by go_num,by omega,by simp [hyl],hown3,hr4,hb4,fun _=>he,aF (by rw [HQ2.out,hst.out];simp)⟩
    case measure=>simp [intOf];omega
   ·have e2:(s'.err == 0)=false:=by simp [he]
    have e3:(s'.err != 0)=true:=by simp [he]
    rw [aX he] at hst
    have HHE:=aF he
    have HQ3:Hid (Q=(ys,s')):=aF (by rw [HQ2.out,hst.out];simp)
    clear he
    generalize s'.err=er at HE e2 e3
    go_wp2_with (go_at_call 89;refine HE.out.mono ?_;rintro e' w3 ⟨rfl,hw⟩;obtain rfl:=hw)
    go_ret
    rw [HQ3.out]
    exact ⟨none,0,0,rfl,HR3.out,HBT.out.trans HB3.out,fun h0=>absurd h0 HHE.out⟩
  ·have hkn:k=n:=by omega
   have HQ3:Hid (Q=(ys,sk)):=aF (by rw [HQ2.out,hkn,Nat.sub_self];simp [itemsS])
   obtain ⟨A,cc,hv⟩:∃A cc,u5 = .slice A k cc:=by
    rcases hown.2 with ⟨h1,h2⟩ | ⟨g',cap,cur,h1,_⟩
    ·exact ⟨none,0,by rw [h1,h2]⟩
    ·exact ⟨_,cap,h1⟩
   subst hv
   have HOWN:=aF hown
   have HRD:=aF hrd
   have HBT:=aF hbt
   clear hown hrd hbt
   go_wp2_with fail
   go_ret
   rw [HQ3.out]
   exact ⟨A,cc,k,rfl,HRD.out,HBT.out,fun _=>⟨hyl,HOWN.out⟩⟩
theorem blk5 {w:World} {k:Nat} {a b c d e:Value} {t:TypeId} (h:w.heap[k]?=some (.cells #[a,b,c,d,e] t (0,0))):
 w.cell? ⟨k,0,none⟩=some a∧w.cell? ⟨k,1,none⟩=some b∧w.cell? ⟨k,2,none⟩=some c∧w.cell? ⟨k,3,none⟩=some d∧w.cell? ⟨k,4,none⟩=some e∧(∀i,w.frozen? ⟨k,i,none⟩=false):=
 ⟨by rw [cell_of_row w _ 0 _ _ _ h];rfl,by rw [cell_of_row w _ 1 _ _ _ h];rfl,by rw [cell_of_row w _ 2 _ _ _ h];rfl,by rw [cell_of_row w _ 3 _ _ _ h];rfl,by rw [cell_of_row w _ 4 _ _ _ h];rfl,fun i=>by simp [World.frozen?,h]⟩
theorem oZ {w:World} {k:Nat} {a b c d e:Value} {t:TypeId} (a' b' c' d' e':Value) (h:w.heap[k]?=some (.cells #[a,b,c,d,e] t (0,0))):
 (((((w.setCell ⟨k,0,none⟩ a').setCell ⟨k,1,none⟩ b').setCell ⟨k,2,none⟩ c').setCell ⟨k,3,none⟩ d').setCell ⟨k,4,none⟩ e').heap[k]?=some (.cells #[a',b',c',d',e'] t (0,0)):=by
 simp [World.setCell,Array.getElem?_modify,h]
def set5 (w:World) (k:Nat) (a b c d e:Value):World:=((((w.setCell ⟨k,0,none⟩ a).setCell ⟨k,1,none⟩ b).setCell ⟨k,2,none⟩ c).setCell ⟨k,3,none⟩ d).setCell ⟨k,4,none⟩ e
theorem tJ {w:World} {k j:Nat} (a b c d e:Value) (h:j≠k):(set5 w k a b c d e).heap[j]?=w.heap[j]?:=by
 unfold set5
 rw [bG _ _ _ j (by simpa using h),bG _ _ _ j (by simpa using h),bG _ _ _ j (by simpa using h),bG _ _ _ j (by simpa using h),bG _ _ _ j (by simpa using h)]
theorem xU (w:World) (k:Nat) (a b c d e:Value):(set5 w k a b c d e).heap.size=w.heap.size:=by simp [set5]
theorem eO {g k:Nat} {w b:World} (h:But g w b) (hk:w.heap.size≤k) (i:Nat) (v:Value):But g w (b.setCell ⟨k,i,none⟩ v):=
 ⟨h.os,h.tape,h.output,by simpa [World.setCell] using h.size,fun j hj hne=>(bG b ⟨k,i,none⟩ v j (by simp;omega)).trans (h.block j hj hne)⟩
theorem nH {g k:Nat} {w w2:World} (a b c d e:Value) (h:But g w w2) (hk:w.heap.size≤k):But g w (set5 w2 k a b c d e):=by
 unfold set5
 exact eO (eO (eO (eO (eO h hk _ _) hk _ _) hk _ _) hk _ _) hk _ _
theorem xAK (s:Rs) (h:(byteS s).2.err≠0):(byteS s).1=0:=by
 unfold byteS at h ⊢
 by_cases h0:s.err=0
 ·rw [aY h0] at h ⊢
  cases hr:s.rest with
  | nil=>rfl
  | cons c r=>rw [hr] at h;exact absurd rfl h
 ·rw [aX h0]
theorem nG {g k:Nat} {w:World} {s:Rs} (a b c d e:Value) (h:PRd w g s) (hk:g<k):PRd (set5 w k a b c d e) g s:=
 h.low (by rw [xU];exact aW _) (fun j hj=>tJ _ _ _ _ _ (by omega))
theorem flat1 {α : Type} (f : α → Value):∀l:List α,l.flatMap (fun x=>[f x])=l.map f
 | []=>rfl
 | x :: l=>by rw [List.flatMap_cons,flat1 f l];rfl
def gK (g:Nat) (w:World) (Q:Ty × Rs) (e':Ending) (w':World):Prop:=
 ∃y:TH,e' = .returned (.agg #[.int .i64 y.t.kind,.bool y.t.mu,.int .i64 y.t.reg,.int .i64 y.t.elem,.slice y.A y.t.flds.length y.c])∧PRd w' g Q.2∧But g w w'∧
  (Q.2.err=0→y.t=Q.1∧w'.ownsRow w.heap.size 3 1 (.slice y.A y.t.flds.length y.c) y.t.flds.length (y.t.flds.map (Value.int .i64)))
theorem hO {w:World} {B B' n k:Nat} {e:TypeId} {v:Value} {xs:List Value} (h:w.ownsRow B e k v n xs) (hB:B'≤B):w.ownsRow B' e k v n xs:=by
 refine ⟨h.1,?_⟩
 rcases h.2 with h | ⟨g,cap,cur,h1,h2,h3⟩
 ·exact .inl h
 ·exact .inr ⟨g,cap,cur,h1,bX hB h2,h3⟩
theorem iR {g:Nat} {w W w1:World} {Q:Ty × Rs} {q1 q2 q3 q4 q5:Value} {fn:Func} {a:Act} (y:TH) (hk:w1.heap[w.heap.size]?=some (.cells #[q1,q2,q3,q4,q5] 83 (0,0))) (hb:Below w.heap.size w W) (h1:But g W w1) (hr:PRd w1 g Q.2) (hgl:g<w.heap.size)
 (hd:a.defers=[])
 (hres:∀W3:World,W3.heap[w.heap.size]?=some (.cells #[.int .i64 y.t.kind,.bool y.t.mu,.int .i64 y.t.reg,.int .i64 y.t.elem,.slice y.A y.t.flds.length y.c] 83 (0,0))→(results fn a.tmps).run Tryz.prog W3 = .ok (.agg #[.int .i64 y.t.kind,.bool y.t.mu,.int .i64 y.t.reg,.int .i64 y.t.elem,.slice y.A y.t.flds.length y.c]) W3)
 (hy:Q.2.err=0→y.t=Q.1∧w1.ownsRow w.heap.size 3 1 (.slice y.A y.t.flds.length y.c) y.t.flds.length (y.t.flds.map (Value.int .i64))):
 bodyPost Tryz.prog fn (gK g w Q) .ret a (set5 w1 w.heap.size (.int .i64 y.t.kind) (.bool y.t.mu) (.int .i64 y.t.reg) (.int .i64 y.t.elem) (.slice y.A y.t.flds.length y.c)):=by
 have n:(set5 w1 w.heap.size (.int .i64 y.t.kind) (.bool y.t.mu) (.int .i64 y.t.reg) (.int .i64 y.t.elem) (.slice y.A y.t.flds.length y.c)).heap[w.heap.size]?=_:=oZ _ _ _ _ _ hk
 refine bodyPost_ret (hres _ n) hd ⟨y,rfl,nG _ _ _ _ _ hr hgl,nH _ _ _ _ _ ((But.of_below (g:=g) hb).trans h1) (aW _),fun h0=>⟨(hy h0).1,?_⟩⟩
 refine cY (hy h0).2 (fun k _ _ hkv=>tJ _ _ _ _ _ (fun e=>?_))
 rw [e] at hkv
 exact fH (hy h0).2 hk (by decide) hkv
theorem jY (h g t:Nat) (T:Option Addr) (c:Nat) (tbl:List ByteArray) (s:Rs) (w:World) (H:DTab w h g t T c tbl) (hr:PRd w g s) (hp:(byteS s).2.err≠0∨(byteS s).1≤2):Calls Tryz.prog 47 #[.pointer (some ⟨h,0,none⟩)] w (gK g w (typeS s)):=by
 have HQ:Hid (typeS s=(⟨(byteS s).1,false,0,0,[]⟩,(byteS s).2)∧((byteS s).1=0∨(byteS s).1=1∨(byteS s).1=2)):=aF (by
  unfold typeS
  by_cases he:(byteS s).2.err=0
  ·rw [aY he]
   have h2:(byteS s).1≤2:=by
    rcases hp with hp | hp
    ·exact absurd he hp
    ·exact hp
   rw [aX (by omega),aX (by omega),aX (by omega)]
   exact ⟨rfl,by omega⟩
  ·rw [aX he]
   have h0:=xAK s he
   rw [h0]
   exact ⟨rfl,.inl rfl⟩)
 have hgl:=hr.lt;obtain ⟨W,hW⟩:∃W,w.alloc (.cells #[.int .i64 0,.bool false,.int .i64 0,.int .i64 0,.slice none 0 0] 83)=W:=⟨_,rfl⟩;have hb:Below w.heap.size w W:=(by rw [← hW];exact (aV _ _).alloc (aW _) _);have hk:W.heap[w.heap.size]?=some (.cells #[.int .i64 0,.bool false,.int .i64 0,.int .i64 0,.slice none 0 0] 83 (0,0)):=(by rw [← hW];exact heap_alloc_new w _);have HB:=aF (gQ g s W (hr.keep hb));have y0:=(H.keep hb).c0;have HH:=aF (H.keep hb);have HK:=aF hk;have HW:=aF hb;clear hr hk hb H
 generalize typeS s=Q at *
 generalize byteS s=R at *
 obtain ⟨b,s1⟩:=R
 simp only at HB HQ
 clear hp
 have HQ1:=aF HQ.out.1
 rcases HQ.out.2 with hb0 | hb0 | hb0
 all_goals
  subst hb0
  clear HQ
  go_enter Tryz.func47,Tryz.ntmps47
  go_wp2_with (go_at_call 90;refine HB.out.mono ?_;rintro e' w1 ⟨rfl,hr1,hb1⟩;have y1:=(HH.out.but hb1).c0;have hk1:=hb1.blk HK.out (by omega);obtain ⟨v0,v1,v2,v3,v4,v5⟩:=blk5 hk1;have v5a:=v5 0;have v5b:=v5 1;have v5c:=v5 2;have v5d:=v5 3;have v5e:=v5 4;have HR1:=aF hr1;have HB1:=aF hb1;have HK1:=aF hk1;clear hr1 hb1 hk1 v5)
  refine iR (Q:=Q) ⟨⟨_,false,0,0,[]⟩,none,0⟩ HK1.out HW.out HB1.out (by rw [HQ1.out];exact HR1.out) hgl rfl (fun W3 n=>?_) (fun _=>⟨by rw [HQ1.out];rfl,World.ownsRow_nil _ _ _ _⟩)
  obtain ⟨u0,u1,u2,u3,u4,_⟩:=blk5 n
  simp [results,Tryz.results47,go_sem,u0,u1,u2,u3,u4] <;> rfl
theorem oI:∀(f n:Nat),(putF f n).length≤f+1
 | 0,_=>by simp [putF]
 | f+1,n=>by
   unfold putF
   split
   ·simp
   ·have:=oI f (n / 128)
    simp only [bJ];omega
def isU8:Obj→Bool
 | .cells _ e _=>e == 5
 | _=>false
structure Wr (g:Nat) (w w':World):Prop where
 os:w'.os=w.os
 tape:w'.tape=w.tape
 output:w'.output=w.output
 size:w.heap.size≤w'.heap.size
 block:∀k o,w.heap[k]?=some o→k≠g→(k<g∨isU8 o=false)→w'.heap[k]?=some o
theorem Wr.refl (g:Nat) (w:World):Wr g w w:=⟨rfl,rfl,rfl,aW _,fun _ _ h _ _=>h⟩
theorem Wr.trans {g:Nat} {a b c:World} (h:Wr g a b) (h2:Wr g b c):Wr g a c:=
 ⟨h2.os.trans h.os,h2.tape.trans h.tape,h2.output.trans h.output,bX h.size h2.size,fun k o h3 h4 h5=>h2.block k o (h.block k o h3 h4 h5) h4 h5⟩
theorem Wr.of_below {g:Nat} {a b:World} (h:Below a.heap.size a b):Wr g a b:=
 ⟨h.os,h.tape,h.output,h.size,fun k _o h1 _ _=>(h.block k (Array.getElem?_eq_some_iff.1 h1).1).trans h1⟩
theorem Wr.below {g:Nat} {a b:World} (h:Wr g a b) (hg:g≤a.heap.size):Below g a b:=
 ⟨h.os,h.tape,h.output,h.size,fun k hk=>by
   obtain ⟨o,ho⟩:∃o,a.heap[k]?=some o:=⟨_,Array.getElem?_eq_getElem (by omega)⟩
   rw [ho]
   exact h.block k o ho (by omega) (.inl hk)⟩
def WRd (w:World) (g:Nat) (l:List UInt8):Prop:=∃A c,w.heap[g]?=some (.cells #[.slice A l.length c] 142 (0,0))∧w.ownsRow (g+1) 5 1 (.slice A l.length c) l.length (l.map encB)
theorem WRd.keep {w w':World} {g:Nat} {l:List UInt8} (h:WRd w g l) (hb:Below w.heap.size w w'):WRd w' g l:=by
 obtain ⟨A,c,h1,h2⟩:=h
 exact ⟨A,c,(hb.block g (Array.getElem?_eq_some_iff.1 h1).1).trans h1,dX h2 hb⟩
theorem WRd.lt {w:World} {g:Nat} {l:List UInt8} (h:WRd w g l):g<w.heap.size:=by
 obtain ⟨A,c,h1,_⟩:=h
 exact (Array.getElem?_eq_some_iff.1 h1).1
theorem vT (w:World):Calls Tryz.prog 29 #[] w fun e' w'=>e' = .returned (.pointer (some ⟨w.heap.size,0,none⟩))∧WRd w' w.heap.size []∧Below w.heap.size w w':=by
 go_enter Tryz.func29,Tryz.ntmps29
 go_wp2_with fail
 go_ret
 exact ⟨rfl,⟨none,0,heap_alloc_new _ _,World.ownsRow_nil _ _ _ _⟩,(aV _ _).alloc (aW _) _⟩
theorem xEA {g m:Nat} {w W w5:World} {l ns:List UInt8} {A B:Option Addr} {c d:Nat} (hg:w.heap[g]?=some (.cells #[.slice A l.length c] 142 (0,0))) (hb:Below w.heap.size w W)
 (hown2:W.ownsRow (g+1) 5 1 (.slice A l.length c) l.length (l.map encB)) (hgrow:W.grownBy w5 (Value.slice A l.length c).ownBlock) (hm:m=l.length+ns.length)
 (hown:w5.ownsRow (g+1) 5 1 (.slice B m d) m (l.map encB ++ ns.map encB)):WRd (w5.setCell ⟨g,0,none⟩ (.slice B m d)) g (l ++ ns)∧Wr g w (w5.setCell ⟨g,0,none⟩ (.slice B m d)):=by
 have hgl:=(Array.getElem?_eq_some_iff.1 hg).1
 have hg5:w5.heap[g]?=some (.cells #[.slice A l.length c] 142 (0,0)):=(hgrow.block g (by have:=hb.size;omega) (dG hown2 (Nat.lt_succ_self g))).trans ((hb.block g hgl).trans hg)
 have hl:(l ++ ns).length=m:=by simp [hm]
 refine ⟨⟨B,d,?_,?_⟩,hgrow.os.trans hb.os,hgrow.tape.trans hb.tape,hgrow.output.trans hb.output,?_,fun k o hk hne hor=>?_⟩
 ·rw [hl];exact dU _ hg5
 ·rw [hl,bS]
  exact cY hown (fun k h1 _ _=>bG _ _ _ k (by simp;omega))
 ·have:=hgrow.size
  have:=hb.size
  simp;omega
 ·have hkl:=(Array.getElem?_eq_some_iff.1 hk).1
  rw [bG _ _ _ k (by simpa using hne)]
  have hkW:=(hb.block k hkl).trans hk
  refine (hgrow.block k (by have:=hb.size;omega) ?_).trans hkW
  rcases hor with h | h
  ·exact dG hown2 (by omega)
  ·cases o with
   | cells cs e z=>
     refine fH hown2 hkW (fun e'=>?_)
     subst e'
     simp [isU8] at h
   | _=>
     intro he
     rcases hown2.2 with ⟨h1,_⟩ | ⟨g',cap,cur,h1,_,hh,_⟩
     ·rw [h1] at he
      simp [Value.ownBlock] at he
     ·rw [h1] at he
      have:k=g':=by simpa [Value.ownBlock] using he
      subst this
      rw [hkW] at hh
      cases hh
theorem mM (g:Nat) (l:List UInt8) (x:Nat) (w:World) (hr:WRd w g l) (hl:l.length≤1000000000) (hx:x<256):
 Calls Tryz.prog 82 #[.pointer (some ⟨g,0,none⟩),.int .u8 x] w fun e' w'=>e' = .returned (.tuple #[])∧WRd w' g (l ++ [x.toUInt8])∧Wr g w w':=by
 obtain ⟨i0,hi,hz0,hz1,hz2⟩:=info_parts lM
 obtain ⟨A,c,hg,hown⟩:=hr
 have hgl:=(Array.getElem?_eq_some_iff.1 hg).1
 obtain ⟨x0,x0'⟩:=blk1 hg
 have hc:x.toUInt8.toNat=x:=by simp;omega
 have HG:=aF hg
 have HO:=aF hown
 have hown2:(w.alloc (.cells #[.int .u8 x] 5)).ownsRow (g+1) 5 1 (.slice A l.length c) l.length (l.map encB):=hown.alloc _
 have HC:=aF hc
 clear hg hown hc
 go_enter Tryz.func82,Tryz.ntmps82
 go_wp2_with (at_builtin;refine wpList_append_own _ rfl _ _ 34 rfl (g+1) 5 i0 (.int .u8 0) 1 1 Tryz.underlying34 hi hz0 hz1 hz2 rfl (by decide) _ _ _ rfl hown2 ⟨w.heap.size,0,none⟩ 1 1 [.int .u8 x] rfl rfl (fun j u hj=>by rw [add0];exact dZ w [.int .u8 x] 5 j u hj) (fun u hu=>by simp at hu;subst hu;rfl) (by unfold maxLen;omega) (by omega) (by simp;omega) ?_)
 intro v' w5 hown' hgrow _
 obtain ⟨B,d,hv⟩:=gS hown'
 subst hv
 have hb:Below w.heap.size w (w.alloc (.cells #[.int .u8 x] 5)):=(aV _ _).alloc (aW _) _
 have hfin:=xEA (ns:=[x.toUInt8]) HG.out hb hown2 hgrow rfl (by simpa [encB,HC.out] using hown')
 have hg5:w5.heap[g]?=some (.cells #[.slice A l.length c] 142 (0,0)):=(hgrow.block g (by simp;omega) (dG hown2 (Nat.lt_succ_self g))).trans ((hb.block g hgl).trans HG.out)
 obtain ⟨y0,y0'⟩:=blk1 hg5
 have HFIN:=aF hfin
 clear hfin hg5 hown' hgrow hown2 hb
 go_wp2_with fail
 exact bodyPost_end (v:= .tuple #[]) (by simp [results,Tryz.results82,go_sem] <;> rfl) rfl ⟨rfl,HFIN.out.1,HFIN.out.2⟩
theorem xGV (g:Nat) (l:List UInt8) (n:Nat) (w:World) (hr:WRd w g l) (hl:l.length≤1000000000) (hn:n<2 ^ 64):
 Calls Tryz.prog 84 #[.pointer (some ⟨g,0,none⟩),.int .u64 n] w fun e' w'=>e' = .returned (.tuple #[])∧WRd w' g (l ++ putL n)∧Wr g w w':=by
 obtain ⟨i0,hi,hz0,hz1,hz2⟩:=info_parts lM
 obtain ⟨A,c,hg,hown⟩:=hr
 have hgl:=(Array.getElem?_eq_some_iff.1 hg).1
 obtain ⟨x0,x0'⟩:=blk1 hg
 have hpl:(putL n).length≤11:=oI 10 n
 have hpp:0<(putL n).length:=tP 10 n
 have HG:=aF hg
 have HO:=aF hown
 have HP:=aF (xCQ n w.drew hn)
 generalize putL n=ns at *
 clear hg hown
 go_enter Tryz.func84,Tryz.ntmps84
 go_wp2_with fail
 refine fT (S:=fun X=>X.cell? ⟨g,0,none⟩=some (.slice A l.length c)) 10 [0,1,2,3,4,5,6,7,8,9,10] (by kernel_rfl) ?_
 have hS:w.drew.cell? ⟨g,0,none⟩=some (.slice A l.length c):=x0
 (iterate 6 (refine cQ (v:=?_) ?_ hS ?_;rotate_left;(next=>(rintro X r1;(try simp only [aH]);go_simp;rfl));simp only [aH,Act.put,aJ]))
 (refine cS (by kernel_rfl) (fun K1 hK1=>?_);simp only [aH,Act.put,aJ];rw [aY (by rfl)];go_simp)
 refine HP.out.mono ?_
 rintro e' w2 ⟨Bp,cp,rfl,hownp,hb2⟩
 have hb:Below w.heap.size w w2:=(aV _ w).drew.trans hb2
 have hS2:w2.cell? ⟨g,0,none⟩=some (.slice A l.length c):=cell_keep hb x0
 refine hK1.out _ _ (fun _=>hS2) ?_
 clear hK1
 (refine cS (by kernel_rfl) (fun K1 hK1=>?_);simp only [aH,Act.put,aJ];rw [aY (by rfl)])
 rcases hownp.2 with ⟨h1,h2⟩ | ⟨gp,cap,cur,h1,hbp,hhp,_⟩
 ·omega
 have hcells:∀j u,(ns.map encB)[j]?=some u→w2.cell? ((⟨gp,0,none⟩:Addr).add j)=some u:=fun j u hj=>hownp.cells (g:=gp) (by rw [h1];rfl) j u hj
 injection h1 with h1 _ h3
 subst h1 h3
 have hown2:w2.ownsRow (g+1) 5 1 (.slice A l.length c) l.length (l.map encB):=dX HO.out hb
 refine eU (.tmp 10) (.tmp 12) 34 rfl (g+1) 5 i0 (.int .u8 0) 1 1 Tryz.underlying34 hi hz0 hz1 hz2 rfl (by decide) (.slice A l.length c) l.length _ rfl hown2 ⟨gp,0,none⟩ ns.length cp (ns.map encB) rfl (by simp) hcells (fun u hu=>by obtain ⟨x,_,rfl⟩:=List.mem_map.1 hu;rfl) (by unfold maxLen;omega) (by omega) (by have:=hb.size;omega) ?_
 intro v' w5 hown' hgrow _
 obtain ⟨B,d,hv⟩:=gS hown'
 subst hv
 have hfin:=xEA (ns:=ns) HG.out hb hown2 hgrow rfl hown'
 have hg5:w5.heap[g]?=some (.cells #[.slice A l.length c] 142 (0,0)):=(hgrow.block g (by have:=hb.size;omega) (dG hown2 (Nat.lt_succ_self g))).trans ((hb.block g hgl).trans HG.out)
 obtain ⟨y0,y0'⟩:=blk1 hg5
 refine hK1.out _ _ (fun _=>y0) ?_
 clear hK1
 (refine cS (by kernel_rfl) (fun K1 hK1=>?_);simp only [aH,Act.put,aJ];rw [aY (by rfl)];go_simp)
 refine hK1.out _ _ (fun _=>y0) ?_
 clear hK1
 (refine cS (by kernel_rfl) (fun K1 hK1=>?_);simp only [aH,Act.put,aJ];rw [aY (by rfl)];go_simp)
 refine hK1.out _ _ (fun _=>y0) ?_
 clear hK1
 (refine cS (by kernel_rfl) (fun K1 hK1=>?_);simp only [aH,Act.put];rw [aY (by rfl)];go_simp)
 refine hK1.out _ _ (fun h=>absurd h (by decide)) ?_
 refine cV (by kernel_rfl) ?_
 have HFIN:=aF hfin
 generalize hW6:w5.setCell ⟨g,0,none⟩ (.slice B (l.length+ns.length) d)=W6 at *
 clear hfin hg5 hown' hgrow hown2 hb hK1 hS hS2 y0 y0' hcells hownp hb2
 go_wp2_with fail
 exact bodyPost_end (v:= .tuple #[]) (by simp [results,Tryz.results84,go_sem] <;> rfl) rfl ⟨rfl,HFIN.out.1,HFIN.out.2⟩
theorem xFO (g:Nat) (l:List UInt8) (w:World) (hr:WRd w g l) (hl:l.length≤1000000):
 Calls Tryz.prog 39 #[.pointer (some ⟨g,0,none⟩)] w fun e' w'=>∃A c,e' = .returned (.slice A l.length c)∧Slc 1 RB w' A c l∧Below w.heap.size w w':=by
 obtain ⟨A,c,hg,hown⟩:=hr
 obtain ⟨x0,_⟩:=blk1 hg
 obtain ⟨A2,c2,hv,hs,_⟩:=eW (R:=RB) (enc:=encB) (fun w B b o x h=>h) hown rfl
 injection hv with hv1 _ hv2
 subst hv1 hv2
 have HC:=aF (mN l A c w hs hl)
 clear hg hown hs
 go_enter Tryz.func39,Tryz.ntmps39
 go_wp2_with (go_at_call 85;refine HC.out.mono ?_;rintro e' w1 ⟨A',c',rfl,hs1,_,hb1⟩;have HS1:=aF hs1;have HB1:=aF hb1;clear hs1 hb1)
 go_ret
 exact ⟨A',c',rfl,HS1.out,HB1.out⟩
def xAZ (l:List UInt8) (w:World) (e':Ending) (w':World):Prop:=
 ∃A c,e' = .returned (.slice A l.length c)∧w'.ownsRow w.heap.size 5 1 (.slice A l.length c) l.length (l.map encB)∧Below w.heap.size w w'
theorem qL {w:World} {base n:Nat} {A:Option Addr} {c:Nat} {l:List UInt8} (h:w.ownsRow base 5 1 (.slice A n c) n (l.map encB)) (hl:n=l.length):
 (A=none→l.length=0)∧∀ad,A=some ad→∀j u,(l.map encB)[j]?=some u→w.cell? (ad.add j)=some u:=by
 subst hl
 rcases h.2 with ⟨h1,h2⟩ | ⟨g,cap,cur,hv,hg,hh,_⟩
 ·exact ⟨fun _=>h2,fun ad he=>by rw [he] at h1;cases h1⟩
 ·injection hv with h1 _ h3
  subst h1 h3
  refine ⟨fun he=>(by cases he),fun ad he j u hj=>?_⟩
  cases he
  exact h.cells (g:=g) rfl j u hj
theorem qH (f n:Nat):(putF f n).length≤f+1:=oI f n
theorem mG (n:Nat) (w:World) (hs:n<128):Calls Tryz.prog 112 #[.int .u64 n] w (xAZ [n.toUInt8] w):=by
 have hc:n.toUInt8.toNat=n:=by simp;omega
 have e1:(n:Int)<128:=by omega
 have e2:(n:Int) % 256=n:=by omega
 generalize n.toUInt8=x at *
 clear hs
 go_enter Tryz.func112,Tryz.ntmps112
 go_wp2_with fail
 go_ret
 exact ⟨_,_,rfl,by rw [cK,cM,encB,hc];exact sF w _ _ _ (aW _),alF _ _⟩
theorem xCC (f:Nat):∀(n:Nat) (w:World),f≤100→n<128 ^ (f+1)→n<2 ^ 64→
 Calls Tryz.prog 112 #[.int .u64 n] w (xAZ (putF f n) w):=by
 obtain ⟨i0,hi,hz0,hz1,hz2⟩:=info_parts lM
 induction f with
 | zero=>
   intro n w _ h1 h2
   have hs:n<128:=by simpa using h1
   rw [jW hs]
   exact mG n w hs
 | succ f ih=>
   intro n w hf h1 h2
   by_cases hs:n<128
   ·rw [jW hs]
    exact mG n w hs
   ·rw [tQ hs]
    have hc:(n % 128+128).toUInt8.toNat=n % 128+128:=by simp;omega
    have e1:¬(n:Int)<128:=by omega
    have HI:=aF (fun W=>ih (n / 128) W (by omega) (by rw [Nat.pow_succ] at h1;omega) (by omega))
    have hd:IntKind.u64.wrap ((n:Int) / 128)=((n / 128:Nat):Int):=by
     rw [show ((n:Int) / 128)=((n / 128:Nat):Int) by omega]
     simp [IntKind.wrap,IntKind.bits,IntKind.signed]
     omega
    have hm:((n:Int) % 128+128)=((n % 128+128:Nat):Int):=by omega
    have hpl:=qH f (n / 128)
    obtain ⟨W,hW⟩:∃W,w.alloc (.cells #[.int .u8 ((n:Int) % 128+128)] 5)=W:=⟨_,rfl⟩
    have hown0:W.ownsRow w.heap.size 5 1 (.slice (some ⟨w.heap.size,0,none⟩) 1 1) 1 [Value.int .u8 ((n:Int) % 128+128)]:=by rw [← hW];exact sF w _ _ _ (aW _)
    have hb0:Below w.heap.size w W:=by rw [← hW];exact alF _ _
    rw [hm] at hown0
    have HE:Hid (Value.int .u8 ((n % 128+128:Nat):Int)=encB (n % 128+128).toUInt8):=aF (by rw [encB,hc])
    generalize (n % 128+128).toUInt8=x at *
    generalize putF f (n / 128)=r at *
    generalize n / 128=q at *
    have HD:=aF hd
    clear hd
    clear ih h1 h2 hs hc
    have HO:=aF hown0
    have HB:=aF hb0
    clear hown0 hb0 hm
    go_enter Tryz.func112,Tryz.ntmps112
    go_wp2_with fail
    go_at_call 112
    rw [HD.out]
    refine (HI.out W).mono ?_
    rintro e' w1 ⟨A,c,rfl,hown1,hb1⟩
    have hown2:=dX HO.out hb1
    have hcl:=qL hown1 rfl
    have HB1:=aF (HB.out.trans (hb1.mono HB.out.size))
    have hsz:=HB.out.size
    have hsz1:=hb1.size
    clear hb1 hown1 HI
    go_wp2_with (at_builtin;refine fX _ rfl _ _ 34 rfl w.heap.size 5 i0 (.int .u8 0) 1 1 Tryz.underlying34 hi hz0 hz1 hz2 rfl (by decide) _ _ _ rfl hown2 (by omega) A r.length c (r.map encB) rfl hcl.1 (by simp) hcl.2 (fun u hu=>by obtain ⟨y,_,rfl⟩:=List.mem_map.1 hu;rfl) (by unfold maxLen;omega) (by omega) (by omega) ?_;intro v1 w5 hown5 hgrow5)
    obtain ⟨A',c',hv⟩:=gR hown5
    subst hv
    have hb5:=HB1.out.grown hgrow5 (by omega) (fun g hg=>(hown2.lt g hg).1)
    have e:(x :: r).length=1+r.length:=by simp;omega
    go_ret
    refine ⟨A',c',by rw [e];rfl,?_,hb5⟩
    rw [e,cK,← HE.out]
    exact hown5
theorem xZ (base:Nat) (v:Value) (m:Nat) (xs:List UInt8) (n:Int) (w:World) (hown:w.ownsRow base 5 1 v m (xs.map encB)) (hbase:base≤w.heap.size) (hm:m≤1000000000) (h0:0≤n) (h1:n<9223372036854775808):
 Calls Tryz.prog 66 #[v,.int .i64 n] w fun e' w'=>∃A c,e' = .returned (.slice A (m+(putI n).length) c)∧w'.ownsRow base 5 1 (.slice A (m+(putI n).length) c) (m+(putI n).length) ((xs ++ putI n).map encB)∧Below base w w'∧(∀j,j<w.heap.size→some j≠v.ownBlock→w'.heap[j]?=w.heap[j]?):=by
 obtain ⟨i0,hi,hz0,hz1,hz2⟩:=info_parts lM
 obtain ⟨k,rfl⟩:=bF h0
 have hk:(k:Int).toNat=k:=rfl
 have HP:=aF (fun W=>xCC 10 k W (by omega) (by omega) (by omega))
 have hw:IntKind.u64.wrap (k:Int)=(k:Int):=by
  simp [IntKind.wrap,IntKind.bits,IntKind.signed]
  omega
 have hpl:=qH 10 k
 have hpp:=tP 10 k
 unfold putI putL
 rw [hk]
 generalize putF 10 k=r at *
 have HW:=aF hw
 have HO:=aF hown
 clear hown hw hk h0 h1
 go_enter Tryz.func66,Tryz.ntmps66
 go_wp2_with fail
 go_at_call 112
 rw [HW.out]
 refine (HP.out w).mono ?_
 rintro e' w1 ⟨A,c,rfl,hown1,hb1⟩
 have hown2:=dX HO.out hb1
 have hcl:=qL hown1 rfl
 have hsz1:=hb1.size
 have HB1:=aF (hb1.mono hbase)
 have HBK:=aF (fun j hj=>hb1.block j hj)
 clear hb1 hown1 HP
 cases A with
 | none=>have:=hcl.1 rfl;omega
 | some ad=>
   go_wp2_with (at_builtin;refine wpList_append_own _ rfl _ _ 34 rfl base 5 i0 (.int .u8 0) 1 1 Tryz.underlying34 hi hz0 hz1 hz2 rfl (by decide) _ _ _ rfl hown2 ad r.length c (r.map encB) rfl (by simp) (hcl.2 ad rfl) (fun u hu=>by obtain ⟨y,_,rfl⟩:=List.mem_map.1 hu;rfl) (by unfold maxLen;omega) (by omega) (by omega) ?_;intro v1 w5 hown5 hgrow5 _)
   obtain ⟨A',c',hv⟩:=gR hown5
   subst hv
   have hb5:=HB1.out.grown hgrow5 (by omega) (fun g hg=>(hown2.lt g hg).1)
   go_ret
   refine ⟨A',c',rfl,?_,hb5,fun j hj hne=>(hgrow5.block j (by omega) hne).trans (HBK.out j hj)⟩
   rw [bS]
   exact hown5
def cmp2 (p q:Int × Int):Int:=if p.1<q.1 then -1 else if q.1<p.1 then 1 else if p.2<q.2 then -1 else if q.2<p.2 then 1 else 0
theorem xAI (x y:Int):Lib.compareInt x y=if x<y then -1 else if y<x then 1 else 0:=by
 unfold Lib.compareInt
 rfl
theorem xAJ (p q:Int × Int):(0≤cmp2 q p)↔(p.1<q.1∨(p.1=q.1∧p.2≤q.2)):=by
 unfold cmp2
 split
 ·omega
 split
 ·omega
 split
 ·omega
 split <;> omega
theorem qZ (p q:Int × Int) (b1 o1 b2 o2:Nat) (w:World) (h1:w.cell? ⟨b1,o1,none⟩=some (.int .i64 p.1)) (h2:w.cell? ⟨b1,o1+1,none⟩=some (.int .i64 p.2)) (h3:w.cell? ⟨b2,o2,none⟩=some (.int .i64 q.1)) (h4:w.cell? ⟨b2,o2+1,none⟩=some (.int .i64 q.2)):
 Calls Tryz.prog 172 #[.slice (some ⟨b1,o1,none⟩) 2 2,.slice (some ⟨b2,o2,none⟩) 2 2] w fun e' w'=>e' = .returned (.int .i64 (cmp2 p q))∧w'=w:=by
 obtain ⟨p1,p2⟩:=p
 obtain ⟨q1,q2⟩:=q
 simp only at *
 obtain ⟨R,hR⟩:∃R,cmp2 (p1,p2) (q1,q2)=R:=⟨_,rfl⟩
 rw [hR]
 have HC1:=aF (Tryz.cmp_Compare_int p1 q1 w)
 have HC2:=aF (Tryz.cmp_Compare_int p2 q2 w)
 have H1:Hid (Lib.compareInt p1 q1≠0→R=Lib.compareInt p1 q1):=aF (fun h=>by
  rw [← hR]
  rw [xAI] at h ⊢
  unfold cmp2
  split
  ·rfl
  split
  ·rfl
  ·simp_all)
 have H2:Hid (Lib.compareInt p1 q1=0→R=Lib.compareInt p2 q2):=aF (fun h=>by
  rw [← hR]
  rw [xAI] at h ⊢
  unfold cmp2
  split
  ·simp_all
  split
  ·simp_all
  ·rfl)
 generalize Lib.compareInt p1 q1=c1 at HC1 H1 H2
 generalize Lib.compareInt p2 q2=c2 at HC2 H2
 clear hR
 go_enter Tryz.func172,Tryz.ntmps172
 go_wp2_with fail
 go_loop [11] (fun v=>∃k:Nat,k≤2∧v = .int .i64 k∧Hid (0<k→c1=0)∧Hid (k=2→R=0)) (fun v=>2 - (intOf v).toNat)
 case atStart=>exact ⟨0,by omega,rfl,aF (fun h=>absurd h (by omega)),aF (fun h=>absurd h (by omega))⟩
 case round=>
  obtain ⟨k,hk,rfl,hr,hr2⟩:=hrel
  rcases (show k=0∨k=1∨k=2 by omega) with rfl | rfl | rfl
  ·by_cases hc:c1=0
   ·have e1:(c1 != 0)=false:=by simp [hc]
    have HC:=aF hc
    clear hr hr2 hc
    go_wp2_with (go_at_call 205;refine HC1.out.mono ?_;rintro e' w1 ⟨rfl,hw⟩;obtain rfl:=hw.symm)
    go_round
    case rel=>exact ⟨1,by omega,by go_num,aF (fun _=>HC.out),aF (fun h=>absurd h (by omega))⟩
    case measure=>simp [intOf]
   ·have e1:(c1 != 0)=true:=by simp [hc]
    have HF:=aF (H1.out hc)
    clear hr hr2 hc
    go_wp2_with (go_at_call 205;refine HC1.out.mono ?_;rintro e' w1 ⟨rfl,hw⟩;obtain rfl:=hw.symm)
    go_ret
    exact ⟨by rw [HF.out];rfl,rfl⟩
  ·have HF:=aF (H2.out (hr.out (by omega)))
   by_cases hc:c2=0
   ·have e1:(c2 != 0)=false:=by simp [hc]
    have HC:Hid (R=0):=aF (by rw [HF.out,hc])
    clear hr2 hc
    go_wp2_with (go_at_call 205;refine HC2.out.mono ?_;rintro e' w1 ⟨rfl,hw⟩;obtain rfl:=hw.symm)
    go_round
    case rel=>exact ⟨2,by omega,by go_num,aF (fun _=>hr.out (by omega)),aF (fun _=>HC.out)⟩
    case measure=>simp [intOf]
   ·have e1:(c2 != 0)=true:=by simp [hc]
    clear hr hr2 hc
    go_wp2_with (go_at_call 205;refine HC2.out.mono ?_;rintro e' w1 ⟨rfl,hw⟩;obtain rfl:=hw.symm)
    go_ret
    exact ⟨by rw [HF.out];rfl,rfl⟩
  ·have HF:=aF (hr2.out rfl)
   clear hr hr2
   go_wp2_with fail
   go_ret
   exact ⟨by rw [HF.out];rfl,rfl⟩
end
end Go.Proofs.YtbnljlpefpllcaaGreatDoor
