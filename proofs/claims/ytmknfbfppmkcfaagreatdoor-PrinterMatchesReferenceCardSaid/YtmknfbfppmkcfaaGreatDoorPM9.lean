/-
  Parts of the proof: V2 V3 V13 Own Late Y3 Y4 Y22 Y23 V48 A3.
-/
import Derived.Test.YtmknfbfppmkcfaaGreatDoorPM0
import Derived.Test.YtmknfbfppmkcfaaGreatDoorPM3
import Derived.Test.YtmknfbfppmkcfaaGreatDoorSh
import Derived.Test.YtmknfbfppmkcfaaGreatDoorPM4
import Derived.Test.YtmknfbfppmkcfaaGreatDoorPM2
import Derived.Test.YtmknfbfppmkcfaaGreatDoorPM1
import Derived.Laws.IdiomStrings
namespace Go.Proofs.YtmknfbfppmkcfaaGreatDoor
set_option maxRecDepth 100000
set_option maxHeartbeats 16000000
section
open Go Go.RowKit Go.Shelf
theorem yZ (c:UInt8):(c.toNat:Int).toNat.toUInt8=c:=by simp
theorem nW (s:ByteArray) (k:Nat) (h:k<s.size):s.data.toList.drop k=s[k] :: s.data.toList.drop (k+1):=by
 rw [cI (by simpa using h)];rfl
theorem sX (s:ByteArray) (k:Nat) (h:s.size<=k):s.data.toList.drop k=[]:=bE (by simpa using h)
theorem eP (s:ByteArray):s.data.toList.length=s.size:=by simp
theorem nI (b:Nat) (x:UInt8) (v:Bool) (w:World) (hc:w.cell? ⟨b,x.toNat,none⟩=some (.bool v)):
 Calls Tryz.prog 205 #[.pointer (some ⟨b,0,none⟩),.int .u8 x.toNat] w fun e w'=>e = .returned (.bool v)/\w'=w:=Tryz.asciiSet_contains b x v w hc
theorem qY {p:UInt8->Bool} {c:UInt8} {r:List UInt8} (h:p c=true):(c :: r).dropWhile p=r.dropWhile p:=by simp [h]
theorem yL {p:UInt8->Bool} {c:UInt8} {r:List UInt8} (h:p c=false):(c :: r).dropWhile p=c :: r:=by simp [h]
theorem vS (s:ByteArray) (b:Nat) (p:UInt8->Bool) (w:World) (hset:∀x:UInt8,w.cell? ⟨b,x.toNat,none⟩=some (.bool (p x))):
 Calls Tryz.prog 177 #[.string s,.pointer (some ⟨b,0,none⟩)] w fun e w'=>(∃t,e = .returned (.string t)/\t.data.toList=s.data.toList.dropWhile p)/\w'=w:=by
 have HS:=aF hset;clear hset;go_enter Tryz.func177,Tryz.ntmps177
 go_wp2_with fail
 go_loop [0] (fun v=>∃t:ByteArray,v = .string t/\t.size<=s.size/\Hid (s.data.toList.dropWhile p=t.data.toList.dropWhile p)) (fun v=>Lib.strSize v)
 case atStart=>exact ⟨s,rfl,aY _,aF rfl⟩
 case round=>
  obtain ⟨t,rfl,hle,hp⟩:=hrel;by_cases h0:0<t.size
  ·have hd:=nW t 0 h0;rw [bX] at hd;have hcx:=HS.out t[0];cases hin:p t[0]
   ·rw [hin] at hcx;have HA:=aF (nI b t[0] false w hcx);have HF:Hid (t.data.toList=s.data.toList.dropWhile p):=aF (by rw [hp.out,hd,yL hin]);clear hd hcx hin hp;go_wp2_with (go_at_call 205;refine HA.out.mono ?_;rintro e w' ⟨rfl,hw⟩;obtain rfl:=hw.symm)
    go_ret;exact ⟨⟨t,rfl,HF.out⟩,rfl⟩
   ·rw [hin] at hcx;have HA:=aF (nI b t[0] true w hcx);have HF:Hid (s.data.toList.dropWhile p=(t.extract 1 t.size).data.toList.dropWhile p):=aF (by rw [hp.out,hd,qY hin,Lib.extract_to_end]);clear hd hcx hin hp;go_wp2_with (go_at_call 205;refine HA.out.mono ?_;rintro e w' ⟨rfl,hw⟩;obtain rfl:=hw.symm)
    go_round
    case rel=>exact ⟨t.extract 1 t.size,rfl,by simp;omega,HF⟩
    case measure=>rw [Lib.strSize_string,Lib.strSize_string];simp;omega
  ·have h00:t.size=0:=by omega
   have hnil:t.data.toList=[]:=bV (by rw [eP];omega);have HF:Hid (t.data.toList=s.data.toList.dropWhile p):=aF (by rw [hp.out,hnil];rfl);clear hnil hp h0;go_wp2_with fail
   go_ret;exact ⟨⟨t,rfl,HF.out⟩,rfl⟩
structure trimRP (s t:ByteArray) (p:UInt8->Bool):Prop where
 one:t.data.toList.all p=true->t.size=0
 two:t.size=0->s.data.toList.all p=true
 three:s.data.toList.all p=true->t.data.toList.all p=true
theorem vR (s:ByteArray) (b:Nat) (p:UInt8->Bool) (w:World) (hs:s.size<=9223372036854775807) (hset:∀x:UInt8,w.cell? ⟨b,x.toNat,none⟩=some (.bool (p x))):
 Calls Tryz.prog 178 #[.string s,.pointer (some ⟨b,0,none⟩)] w fun e w'=>(∃t,e = .returned (.string t)/\trimRP s t p)/\w'=w:=by
 have HS:=aF hset;clear hset;go_enter Tryz.func178,Tryz.ntmps178
 go_wp2_with fail
 go_loop [0] (fun v=>∃t:ByteArray,v = .string t/\t.size<=s.size/\Hid (s.data.toList.all p=t.data.toList.all p)) (fun v=>Lib.strSize v)
 case atStart=>exact ⟨s,rfl,aY _,aF rfl⟩
 case round=>
  obtain ⟨t,rfl,hle,hp⟩:=hrel;by_cases h0:0<t.size
  ·have hk:t.size - 1<t.size:=by omega
   have hd:t.data.toList=(t.extract 0 (t.size - 1)).data.toList ++ [t[t.size - 1]]:=by
    have h1:=nW t (t.size - 1) hk;rw [show t.size - 1+1=t.size by omega,sX t t.size (aY _)] at h1;rw [<- h1,Lib.extract_data,bX,Nat.sub_zero,List.take_append_drop]
   have hcx:=HS.out t[t.size - 1];have hw1:((t.size:Int) - 1)=((t.size - 1:Nat):Int):=by omega
   cases hin:p t[t.size - 1]
   ·rw [hin] at hcx;have HA:=aF (nI b t[t.size - 1] false w hcx);have HF:Hid (t.data.toList.all p=false):=aF (by rw [hd];simp [hin]);clear hd hcx hin;go_wp2_with (go_at_call 205;refine HA.out.mono ?_;rintro e w' ⟨rfl,hw⟩;obtain rfl:=hw.symm)
    go_ret;refine ⟨⟨t,rfl,fun h=>?_,fun h=>by omega,fun h=>by rw [<- hp.out];exact h⟩,rfl⟩;rw [HF.out] at h;cases h
   ·rw [hin] at hcx;have HA:=aF (nI b t[t.size - 1] true w hcx);have HF:Hid (s.data.toList.all p=(t.extract 0 (t.size - 1)).data.toList.all p):=aF (by rw [hp.out,hd,List.all_append,cC,hin];simp);clear hd hcx hin hp;go_wp2_with (go_at_call 205;refine HA.out.mono ?_;rintro e w' ⟨rfl,hw⟩;obtain rfl:=hw.symm)
    go_round
    case rel=>exact ⟨t.extract 0 (t.size - 1),rfl,by simp;omega,HF⟩
    case measure=>rw [Lib.strSize_string,Lib.strSize_string];simp;omega
  ·have h00:t.size=0:=by omega
   have hnil:t.data.toList=[]:=bV (by rw [eP];omega);have HF:Hid (s.data.toList.all p=true/\t.data.toList.all p=true):=aF (by rw [hp.out,hnil];exact ⟨rfl,rfl⟩);clear hnil hp h0;go_wp2_with fail
   go_ret;exact ⟨⟨t,rfl,fun _=>h00,fun _=>HF.out.1,fun _=>HF.out.2⟩,rfl⟩
theorem xCQ {p:UInt8->Bool}:∀{l:List UInt8},l.dropWhile p=[]->l.all p=true
 | [],_=>rfl
 | c :: r,h=>by
   cases hc:p c
   ·rw [yL hc] at h;cases h
   ·rw [qY hc] at h;simp only [cC,hc,xCQ h,Bool.and_self]
theorem xCR {p:UInt8->Bool}:∀{l:List UInt8},l.all p=true->l.dropWhile p=[]
 | [],_=>rfl
 | c :: r,h=>by
   simp only [cC,bQ] at h;rw [qY h.1,xCR h.2]
def lettersA:ByteArray:=⟨#[95,97,98,99,100,101,102,103,104,105,106,107,108,109,110,111,112,113,114,115,116,117,118,119,120,121,122,65,66,67,68,69,70,71,72,73,74,75,76,77,78,79,80,81,82,83,84,85,86,87,88,89,90,48,49,50,51,52,53,54,55,56,57]⟩
theorem xEV:(Tryz.prog.info? 240).map (fun i=>(i.zero,i.size))=some (some (.agg (Array.replicate 256 (.bool false))),256):=by kernel_rfl
theorem xCT:∀w,(zeroValue 240).run Tryz.prog w = .ok (.agg (Array.replicate 256 (.bool false))) w:=fun w=>by
 have h:=xEV;cases hi:Tryz.prog.info? 240 with
 | none=>rw [hi] at h;cases h
 | some i=>
   rw [hi] at h;simp at h;simp [zeroValue,typeInfo,hi,h.1]
theorem zA {l:List UInt8} (h:l.all (fun c=>decide (c.toNat<128))=true):∀(j:Nat) b,l[j]?=some b->b.toNat<128:=fun j b hj=>by
 simpa using List.all_eq_true.1 h b (List.mem_of_getElem? hj)
theorem zO (s:ByteArray) (w:World) (h0:0<s.size) (hs:s.size<=9223372036854775807):
 Calls Tryz.prog 146 #[.string s,.string lettersA] w fun e w'=>(∃t,e = .returned (.string t)/\(t.size=0↔s.data.toList.all (fun c=>lettersA.data.toList.contains c)=true))/\Below w.heap.size w w':=by
 have hM:=Tryz.strings_makeASCIISet xCT lettersA w (by decide) (zA (by decide));have hn1:((lettersA.size:Int) == 1)=false:=by decide
 have hemp:lettersA.toList.isEmpty=false:=by rw [Lib.toList_data];rfl
 have hc0:2<=lettersA.size:=by decide
 generalize lettersA=cutset at *
 have hemps:s.toList.isEmpty=false:=by
  rw [Lib.toList_data];cases h:s.data.toList with
  | nil=>have:=Lib.size_eq s;rw [h,bP] at this;omega
  | cons _ _=>rfl
 have hsc:(storeCells ⟨w.heap.size+1,0,none⟩ (Lib.setCells cutset.data.toList).toList 0).run Tryz.prog ((w.alloc (.cells (Lib.setCells cutset.data.toList) 240)).alloc (.cells (Array.replicate 256 (.bool false)) 240)) = .ok () ((w.alloc (.cells (Lib.setCells cutset.data.toList) 240)).alloc (.cells (Lib.setCells cutset.data.toList) 240)):=by
  have:=run_storeCells_new (P:=Tryz.prog) (w.alloc (.cells (Lib.setCells cutset.data.toList) 240)) 240 (Array.replicate 256 (.bool false)) (Lib.setCells cutset.data.toList) (by rw [Lib.setCells_size];kernel_rfl) (by rw [Lib.setCells_size,Array.size_replicate]) (Lib.setCells_one _);simpa using this
 have hsz:=Lib.setCells_size cutset.data.toList;have hz:Tryz.zeroCells240=Array.replicate 256 (.bool false):=by kernel_rfl
 obtain ⟨W,hW⟩:∃W,((w.alloc (.cells (Lib.setCells cutset.data.toList) 240)).alloc (.cells (Lib.setCells cutset.data.toList) 240))=W:=⟨_,rfl⟩
 have hcellAt:∀x:UInt8,W.cell? ⟨w.heap.size+1,x.toNat,none⟩=some (.bool (cutset.data.toList.contains x)):=fun x=>by
  rw [<- hW,World.cell?_alloc_at _ _ _ _ (by simp),Lib.setCells_at]
 have hB:Below w.heap.size w W:=by rw [<- hW];exact ((aX _ _).alloc (aY _) _).alloc (by simp) _
 have HR:=aF (vR s (w.heap.size+1) (fun c=>cutset.data.toList.contains c) W hs hcellAt);have HL:=aF (fun t=>vS t (w.heap.size+1) (fun c=>cutset.data.toList.contains c) W hcellAt);have HB:=aF hB;clear hcellAt hB hs;go_enter Tryz.func146,Tryz.ntmps146
 go_wp2_with (first
  | (go_at_call 176;refine hM.mono ?_;rintro e w' ⟨rfl,hw⟩;rw [hw])
  | (go_at_call 178;refine HR.out.mono ?_;rintro e w' ⟨⟨t,rfl,ht⟩,hw⟩;obtain rfl:=hw.symm)
  | (go_at_call 177;refine (HL.out _).mono ?_;rintro e w' ⟨⟨u,rfl,hu⟩,hw⟩;obtain rfl:=hw.symm))
 go_ret;refine ⟨⟨u,rfl,⟨fun h=>?_,fun h=>?_⟩⟩,HB.out⟩
 ·have h1:u.data.toList=[]:=bV (by rw [eP];exact h);exact ht.two (ht.one (xCQ (hu ▸ h1)))
 ·have h1:=xCR (ht.three h);rw [<- eP,hu,h1];rfl
def digitsA:ByteArray:=⟨#[48,49,50,51,52,53,54,55,56,57]⟩
theorem xAD (c:UInt8):lettersA.data.toList.contains c=(isLet c || isDig c):=by
 have h:∀n,n<256->lettersA.data.toList.contains (UInt8.ofNat n)=(isLet (UInt8.ofNat n) || isDig (UInt8.ofNat n)):=by decide +kernel
 have:=h c.toNat c.toNat_lt;simpa using this
theorem xDM (c:UInt8):digitsA.data.toList.contains c=isDig c:=by
 have h:∀n,n<256->digitsA.data.toList.contains (UInt8.ofNat n)=isDig (UInt8.ofNat n):=by decide +kernel
 have:=h c.toNat c.toNat_lt;simpa using this
theorem xEU (c:UInt8):isLet c=true->isDig c=false:=by
 intro h;simp only [isLet,isDig,Bool.or_eq_true,decide_eq_true_eq,decide_eq_false_iff_not] at *;omega
theorem sU (l:List UInt8):mY l=(decide (1<=l.length) && decide (l.length<=255) && !(l.head?.any isDig) && l.all (fun c=>isLet c || isDig c)):=by
 cases l with
 | nil=>rfl
 | cons c r=>
   have:=xEU c;simp only [mY,bK,List.head?_cons,Option.any_some,cC];cases h1:isLet c <;> cases h2:isDig c <;> simp_all [Bool.and_comm]
theorem index_of_mem (c:UInt8):∀l:List UInt8,(0<=Lib.indexByte l c/\l.contains c=true)\/(Lib.indexByte l c = -1/\l.contains c=false)
 | []=>Or.inr ⟨rfl,rfl⟩
 | b :: l=>by
   unfold Lib.indexByte;by_cases hb:b=c
   ·subst hb;exact Or.inl ⟨by simp,by simp⟩
   ·have hb2:(b == c)=false:=by simpa using hb
    have hb3:(c == b)=false:=by simpa using fun h=>hb h.symm
    rw [hb2,List.contains_cons,hb3];rcases index_of_mem c l with ⟨h1,h2⟩ | ⟨h1,h2⟩
    ·refine Or.inl ⟨?_,by simpa using h2⟩;have:(Lib.indexByte l c == -1)=false:=by simp;omega
     rw [this];simp;omega
    ·refine Or.inr ⟨?_,by simpa using h2⟩;rw [h1];rfl
theorem xY {s:ByteArray} (h:s.size=0):isIdent s=false:=by
 have:s.data.toList=[]:=bV (by rw [eP];exact h);unfold isIdent;rw [this];rfl
theorem fF (s:ByteArray) (w:World):
 Calls Tryz.prog 108 #[.string s] w fun e w'=>e = .returned (.bool (isIdent s))/\Below w.heap.size w w':=by
 by_cases h0:s.size=0
 ·have HI:=aF (xY h0)
  have hemp:s.toList.isEmpty=true:=by
   rw [Lib.toList_data,show s.data.toList=[] from bV (by rw [eP];exact h0)];rfl
  go_enter Tryz.func108,Tryz.ntmps108
  go_wp2_with fail
  go_ret;exact ⟨by rw [HI.out];rfl,aX _ _⟩
 ·have hd:=nW s 0 (by omega);obtain ⟨c,hc⟩:∃c,s[0]'(by omega)=c:=⟨_,rfl⟩;rw [bX,hc] at hd;have hlen:=eP s
  have hemp:s.toList.isEmpty=false:=by
   rw [Lib.toList_data,hd];rfl
  have HI:Hid (isIdent s=(decide (1<=s.size) && decide (s.size<=255) && !(isDig c) && s.data.toList.all (fun c=>lettersA.data.toList.contains c))):=aF (by
   unfold isIdent;rw [sU,hlen,hd]
   simp only [List.head?_cons,Option.any_some,xAD])
  have hx:=index_of_mem c digitsA.data.toList;rw [xDM] at hx;have hib:=Tryz.strings_IndexByte digitsA c.toNat w;rw [yZ] at hib;generalize Lib.indexByte digitsA.data.toList c=j at hx hib;have HIB:=aF hib;obtain ⟨dg,hdg⟩:∃dg,isDig c=dg:=⟨_,rfl⟩;rw [hdg] at hx HI;clear hd hdg hlen hib;by_cases h1:s.size<=255
  ·have HT:=aF (zO s w (by omega) (by omega));rcases hx with ⟨hj,rfl⟩ | ⟨rfl,rfl⟩
   ·go_enter Tryz.func108,Tryz.ntmps108
    go_wp2_with (go_at_call 145;refine HIB.out.mono ?_;rintro e' w' ⟨rfl,hw'⟩;obtain rfl:=hw'.symm)
    go_ret;exact ⟨by rw [HI.out];simp,aX _ _⟩
   ·go_enter Tryz.func108,Tryz.ntmps108
    go_wp2_with (first
     | (go_at_call 145;refine HIB.out.mono ?_;rintro e' w' ⟨rfl,hw'⟩;obtain rfl:=hw'.symm)
     | (go_at_call 146;refine HT.out.mono ?_;rintro e' w1 ⟨⟨t,rfl,ht⟩,hb1⟩))
    go_ret;refine ⟨?_,hb1⟩
    have he:t.toList.isEmpty=s.data.toList.all (fun c=>lettersA.data.toList.contains c):=by
     rw [bR,<- ht,Lib.toList_data,List.isEmpty_iff,<- List.length_eq_zero_iff,eP]
    rw [HI.out,<- he];simp [h1];omega
  ·go_enter Tryz.func108,Tryz.ntmps108
   go_wp2_with fail
   go_ret;exact ⟨by rw [HI.out];simp [h1],aX _ _⟩
theorem xET (c:UInt8):isLet c=((decide (97<=(c.toNat:Int)) && decide ((c.toNat:Int)<=122)) || (decide (65<=(c.toNat:Int)) && decide ((c.toNat:Int)<=90)) || decide ((c.toNat:Int)=95)):=by
 rw [bR];simp only [isLet,Bool.or_eq_true,bQ,decide_eq_true_eq];omega
def okAt (k:Nat) (c:UInt8):Bool:=isLet c || (decide (k≠0) && isDig c)
def okFrom:Nat->List UInt8->Bool
 | _,[]=>true
 | k,c :: r=>okAt k c && okFrom (k+1) r
theorem lH:∀(l:List UInt8) (k:Nat),okFrom (k+1) l=l.all (fun c=>isLet c || isDig c)
 | [],_=>rfl
 | c :: r,k=>by simp [okFrom,okAt,lH r]
theorem uV (l:List UInt8):mY l=(okFrom 0 l && (decide (1<=l.length) && decide (l.length<=255))):=by
 cases l with
 | nil=>rfl
 | cons c r=>
   simp only [mY,okFrom,lH,okAt,bK];rw [bR];simp only [bQ,Bool.or_eq_true,decide_eq_true_eq];constructor
   ·rintro ⟨⟨h1,h2⟩,h3⟩;exact ⟨⟨.inl h1,h2⟩,by omega,by omega⟩
   ·rintro ⟨⟨h1,h2⟩,h3⟩;exact ⟨⟨h1.resolve_right (by simp),h2⟩,by omega⟩
theorem iP (s:ByteArray) (w:World) (hs:s.size<=9223372036854775807):
 Calls Tryz.prog 92 #[.string s] w fun e w'=>e = .returned (.bool (isIdent s))/\w'=w:=by
 obtain ⟨R,hR⟩:∃R,okFrom 0 s.data.toList=R:=⟨_,rfl⟩;have HR:Hid (isIdent s=(R && (decide (1<=s.size) && decide (s.size<=255)))):=aF (by unfold isIdent;rw [uV,hR,eP]);generalize isIdent s=q at HR ⊢;have HR0:=aF hR;clear hR;go_enter Tryz.func92,Tryz.ntmps92
 go_wp2_with fail
 go_loop [3] (fun v=>∃k:Nat,k<=s.size/\v = .int .i64 k/\Hid (R=okFrom k (s.data.toList.drop k))) (fun v=>s.size - (intOf v).toNat)
 case atStart=>exact ⟨0,Nat.zero_le _,rfl,aF HR0.out.symm⟩
 case round=>
  obtain ⟨k,hk,rfl,hr⟩:=hrel;by_cases hlt:k<s.size
  ·have hd:=nW s k hlt;obtain ⟨c,hc⟩:∃c,s[k]=c:=⟨_,rfl⟩;rw [hc] at hd;have hcb:c.toNat<256:=c.toNat_lt;obtain ⟨y,hy⟩:∃y,c.toNat=y:=⟨_,rfl⟩
   have HOK:Hid (okAt k c=((decide (97<=(y:Int)) && decide ((y:Int)<=122)) || (decide (65<=(y:Int)) && decide ((y:Int)<=90)) || decide ((y:Int)=95) || (decide (k≠0) && (decide (48<=(y:Int)) && decide ((y:Int)<=57))))):=aF (by
    rw [<- hy];unfold okAt
    rw [xET,show isDig c=(decide (48<=(c.toNat:Int)) && decide ((c.toNat:Int)<=57)) by rw [bR];simp only [isDig,bQ,decide_eq_true_eq];omega])
   have HN:Hid (R=(okAt k c && okFrom (k+1) (s.data.toList.drop (k+1)))):=aF (by rw [hr.out,hd];rfl);rw [hy] at hcb;have hcy:s[k].toNat=y:=by rw [hc,hy]
   clear hd hr;cases hz:okAt k c
   ·have HZ:Hid (R=false):=aF (by rw [HN.out,hz];rfl);rw [hz] at HOK;clear hz HN;go_wp2_with fail
    all_goals first
     | (go_ret;exact ⟨by rw [HR.out,HZ.out];rfl,rfl⟩)
     | (exfalso;have:=HOK.out;clear HOK HZ HR HR0;grind)
   ·have HZ:Hid (R=okFrom (k+1) (s.data.toList.drop (k+1))):=aF (by rw [HN.out,hz];rfl);rw [hz] at HOK;clear hz HN;go_wp2_with fail
    all_goals first
     | (go_round
        case rel=>exact ⟨k+1,by omega,by go_num,HZ⟩
        case measure=>simp [intOf];omega)
     | (exfalso;have:=HOK.out;clear HOK HZ HR HR0;grind)
  ·have HQ:Hid (q=(decide (1<=s.size) && decide (s.size<=255))):=aF (by rw [HR.out,hr.out,sX s k (by omega)];rfl);clear hr HR;rcases (show s.size<1\/(1<=s.size/\s.size<=255)\/255<s.size by omega) with h | ⟨h,h'⟩ | h
   ·obtain rfl:q=false:=by rw [HQ.out];simp;omega
    clear HQ;go_wp2_with fail
    go_ret;exact ⟨rfl,rfl⟩
   ·obtain rfl:q=true:=by rw [HQ.out];simp;omega
    clear HQ;go_wp2_with fail
    go_ret;exact ⟨by simp;omega,rfl⟩
   ·obtain rfl:q=false:=by rw [HQ.out];simp;omega
    clear HQ;go_wp2_with fail
    go_ret;exact ⟨by simp;omega,rfl⟩
end
section
open Go Go.RowKit Go.Maps
def seenF (ns:List ByteArray) (l:List UInt8):Bool:=ns.any (fun s=>decide (s.data.toList=l))
theorem xCS {s t:ByteArray} (h:s.data.toList=t.data.toList):s=t:=by
 cases s;cases t
 simpa using h
theorem oS (ns:List ByteArray) (s:ByteArray):seenF ns s.data.toList=memN s ns:=by
 unfold seenF memN;congr 1
 funext x
 rw [decide_eq_decide];exact ⟨xCS,fun h=>by rw [h]⟩
theorem oR (ns:List ByteArray) (s:ByteArray):strF (seenF (s :: ns)) (.string s.data.toList)=true:=by
 simp [strF,seenF]
theorem oQ (ns:List ByteArray) (s:ByteArray):∀x,x≠Lit.string s.data.toList->strF (seenF (s :: ns)) x=strF (seenF ns) x:=by
 intro x hx;cases x <;> try rfl
 rename_i l;have:s.data.toList≠l:=fun h=>hx (by rw [h])
 simp [strF,seenF,this]
theorem rS:strF (seenF [])=fun _=>false:=by
 funext x
 cases x <;> rfl
theorem law9:Keyed Tryz.prog 9:=string_keyed Tryz.underlying9
theorem uU {s:ByteArray} (h:isIdent s=true):s.size<=255:=by
 unfold isIdent at h;rw [sU] at h;simp only [bQ,decide_eq_true_eq,eP] at h;omega
theorem key9 {s:ByteArray} (h:isIdent s=true):keyOf Tryz.prog 9 (.string s)=some (.string s.data.toList):=Go.WideMaps.keyOf_string_mk Tryz.underlying9 (by have:=uU h;unfold maxLen;omega)
theorem zeroB:∀w,(zeroValue 4).run Tryz.prog w = .ok (.bool false) w:=Tryz.zeroValue4
theorem xG (l:List ByteArray) (A:Option Addr) (c:Nat) (w:World) (hs:Slc 1 RN w A c l):
 Calls Tryz.prog 110 #[.slice A l.length c] w fun e' w'=>e' = .returned (.int .i64 (namesC l))/\Below w.heap.size w w':=by
 have hle:=hs.le;have hbig:=hs.big;unfold namesC;by_cases h0:65535<l.length
 ·rw [bA h0];clear hs;go_enter Tryz.func110,Tryz.ntmps110
  go_wp2_with fail
  go_ret;exact ⟨rfl,aX _ _⟩
 rw [aZ h0];obtain ⟨R,hR⟩:∃R,namesE [] l=R:=⟨_,rfl⟩;rw [hR];have HR:=aF hR;have HS:=aF hs;clear hR hs;have hmm:= @run_makeMap Tryz.prog;go_enter Tryz.func110,Tryz.ntmps110
 go_wp2_with fail
 go_loopw [12] (fun v wr=>∃(k:Nat) (ns:List ByteArray),k<=l.length/\v = .int .i64 k/\OwnB Tryz.prog 9 4 wr w.heap.size k (strF (seenF ns))/\Hid (Below w.heap.size w wr)/\Hid (R=namesE ns (l.drop k))) (fun v _=>l.length - (intOf v).toNat)
 case atStart=>exact ⟨0,[],by omega,rfl,by rw [rS];exact OwnB.made _ _ _ _,aF ((aX _ _).alloc (aY _) _),aF HR.out.symm⟩
 case round=>
  obtain ⟨k,ns,hk,rfl,hown,hB,hr⟩:=hrel;by_cases hlt:k<l.length
  ·have hd:=cY hlt;obtain ⟨b,o,rfl,hb,hx⟩:=(HS.out.sl.keep RN.keeps hB.out.size hB.out).at_ hlt;obtain ⟨s,hsx⟩:∃s,l[k]=s:=⟨_,rfl⟩;rw [hsx] at hd hx;have x0:wr.cell? ⟨b,o+k,none⟩=some (.string s):=by simpa [RN] using hx
   have HI:=aF (fF s wr);have HN:Hid (R=if isIdent s=false then 12 else if memN s ns=true then 21 else namesE (s :: ns) (l.drop (k+1))):=aF (by rw [hr.out,hd];rfl);have hsz:=hB.out.size;clear hd hx hr hsx;cases hid:isIdent s
   ·rw [hid] at HI HN;clear hid hown;go_wp2_with (go_at_call 108;refine HI.out.mono ?_;rintro e' w1 ⟨rfl,hb1⟩)
    go_ret;exact ⟨by rw [HN.out];rfl,hB.out.trans (hb1.mono hsz)⟩
   ·have hkey:=key9 hid;rw [hid] at HI HN;have HM:=aF (oS ns s);clear hid;cases hm:memN s ns
    ·have HN':Hid (R=namesE (s :: ns) (l.drop (k+1))):=aF (by rw [HN.out,hm];rfl);have HF:Hid (strF (seenF ns) (.string s.data.toList)=false):=aF (by simp only [strF];rw [HM.out,hm]);clear hm HN HM
     go_wp2_with (first
      | (go_at_call 108;refine HI.out.mono ?_;rintro e' w1 ⟨rfl,hb1⟩;have hown1:=hown.below hb1)
      | (at_lookup;refine dI _ rfl _ _ 200 rfl 9 4 law9 Tryz.underlying200 Tryz.underlying4 (zeroB _) _ _ _ rfl hown1 _ _ rfl hkey ?_;rw [HF.out])
      | (at_mapUpdate;refine eK _ rfl _ _ _ 200 rfl 9 4 law9 Tryz.underlying200 Tryz.underlying4 _ _ _ rfl hown1 (by unfold maxLen;omega) _ _ _ rfl rfl hkey trivial _ (oR ns s) (oQ ns s) ?_;intro w2 hown2 hg2))
     go_roundw
     case rel=>exact ⟨k+1,s :: ns,by omega,by go_num,hown2,aF ((hB.out.trans (hb1.mono hsz)).trans (eG hg2 (aY _) (bZ hsz hb1.size))),HN'⟩
     case measure=>simp [intOf];omega
    ·have HN':Hid (R=21):=aF (by rw [HN.out,hm];rfl);have HF:Hid (strF (seenF ns) (.string s.data.toList)=true):=aF (by simp only [strF];rw [HM.out,hm]);clear hm HN HM
     go_wp2_with (first
      | (go_at_call 108;refine HI.out.mono ?_;rintro e' w1 ⟨rfl,hb1⟩;have hown1:=hown.below hb1)
      | (at_lookup;refine dI _ rfl _ _ 200 rfl 9 4 law9 Tryz.underlying200 Tryz.underlying4 (zeroB _) _ _ _ rfl hown1 _ _ rfl hkey ?_;rw [HF.out]))
     go_ret;exact ⟨by rw [HN'.out];rfl,hB.out.trans (hb1.mono hsz)⟩
  ·have HN:Hid (R=0):=aF (by rw [hr.out,bE (by omega)];rfl);clear hr hown;go_wp2_with fail
   go_ret;exact ⟨by rw [HN.out];rfl,hB.out⟩
def bxW (w:World) (b:Bdy) (h:BH):World:=w.alloc (.cells (bdC b h).toArray 28)
theorem oD (w:World) (b:Bdy) (h:BH):(bxW w b h).heap.size=w.heap.size+1:=by simp [bxW]
theorem lW (w:World) (b:Bdy) (h:BH):Below w.heap.size w (bxW w b h):=(aX _ _).alloc (aY _) _
theorem oB {w wr:World} {b:Bdy} {h:BH} (hB:Below (w.heap.size+1) (bxW w b h) wr) (i:Nat) (v:Value) (hi:(bdC b h)[i]?=some v):wr.cell? ⟨w.heap.size,i,none⟩=some v:=by
 refine (hB.cell (p:=⟨w.heap.size,i,none⟩) (by simp)).trans ?_;rw [bxW,World.cell?_alloc_at _ _ _ _ (by simp)];simpa using hi
theorem nC {w wr:World} {b:Bdy} {h:BH} (hB:Below (w.heap.size+1) (bxW w b h) wr):Below w.heap.size w wr:=
 (lW w b h).trans (hB.mono (by omega))
theorem qC (w:World) (x y:Value) (t:TypeId):(w.alloc (.cells #[x,y] t)).cell? ⟨w.heap.size,0,none⟩=some x/\(w.alloc (.cells #[x,y] t)).cell? ⟨w.heap.size,1,none⟩=some y:=by
 constructor <;> (rw [World.cell?_alloc_at _ _ _ _ (by simp)];rfl)
theorem keepA {w W:World} {o:Obj} {p:Addr} {v:Value} (hb:Below (w.alloc o).heap.size (w.alloc o) W) (h:w.cell? p=some v):W.cell? p=some v:=
 cN hb (((((aX w.heap.size w).alloc (aY _) o).cell (p:=p) (cE w p h))).trans h)
theorem uS (b:Bdy) (bh:BH) (w:World) (H:BdAt w b bh):
 Calls Tryz.prog 113 #[.agg (bdC b bh).toArray] w fun e' w'=>e' = .returned (.int .i64 (localsC b))/\Below w.heap.size w w':=by
 obtain ⟨A1,c1,A2,c2,A3,c3,A4,c4,A5,c5⟩:=bh;have hle:=H.loc.le;have hbig:=H.loc.big;have HLOC:=aF H.loc;have htl:=H.typ.le;have htb:=H.typ.big;unfold localsC;clear H;unfold bdC;simp only at hle hbig htl htb HLOC ⊢;have HBX:=aF (lW w b ⟨A1,c1,A2,c2,A3,c3,A4,c4,A5,c5⟩);by_cases h0:65535<b.locals.length
 ·rw [bA h0];go_enter Tryz.func113,Tryz.ntmps113
  go_wp2_with fail
  go_ret;exact ⟨rfl,HBX.out⟩
 rw [aZ h0];obtain ⟨R,hR⟩:∃R,localsE b.types.length [] b.locals=R:=⟨_,rfl⟩;rw [hR];have HR:=aF hR;clear hR;obtain ⟨Q,hQ⟩:∃Q,(if R=0 then (if b.args<0\/(b.locals.length:Int)<b.args then 3 else 0) else R)=Q:=⟨_,rfl⟩;rw [hQ];have HQ:=aF hQ;clear hQ;have hmm:= @run_makeMap Tryz.prog;go_enter Tryz.func113,Tryz.ntmps113
 go_wp2_with fail
 go_loopw [14] (fun v wr=>∃(k:Nat) (ns:List ByteArray),k<=b.locals.length/\v = .int .i64 k/\OwnB Tryz.prog 9 4 wr (w.heap.size+1) k (strF (seenF ns))/\Hid (Below (w.heap.size+1) (bxW w b ⟨A1,c1,A2,c2,A3,c3,A4,c4,A5,c5⟩) wr)/\Hid (R=localsE b.types.length ns (b.locals.drop k))) (fun v _=>b.locals.length - (intOf v).toNat)
 case atStart=>exact ⟨0,[],by omega,rfl,by rw [rS];have:=OwnB.made (bxW w b ⟨A1,c1,A2,c2,A3,c3,A4,c4,A5,c5⟩) Tryz.prog 9 4;rw [oD] at this;exact this,aF ((aX _ (bxW w b ⟨A1,c1,A2,c2,A3,c3,A4,c4,A5,c5⟩)).alloc (by rw [oD];omega) _),aF HR.out.symm⟩
 case round=>
  obtain ⟨k,ns,hk,rfl,hown,hB,hr⟩:=hrel;have x3:=oB hB.out 3 _ rfl;have x4:=oB hB.out 4 _ rfl;have x5:=oB hB.out 5 _ rfl;have hsz:=hB.out.size;rw [oD] at hsz;by_cases hlt:k<b.locals.length
  ·have hd:=cY hlt;obtain ⟨bb,o,rfl,hb,hx⟩:=(HLOC.out.sl.keep RLc.keeps (bZ (Nat.le_succ _) hsz) (nC hB.out)).at_ hlt;obtain ⟨s,hsx⟩:∃s,b.locals[k]=s:=⟨_,rfl⟩;rw [hsx] at hd hx;obtain ⟨y0,y1⟩:=hx;have hls:=dB hb;have HN:Hid (R=if isIdent s.name=false then 12 else if memN s.name ns=true then 21 else if s.type<0\/(b.types.length:Int)<=s.type then 3 else localsE b.types.length (s.name :: ns) (b.locals.drop (k+1))):=aF (by rw [hr.out,hd];rfl);clear hd hr hsx;cases hid:isIdent s.name
   ·have HF:Hid (Q=12):=aF (by rw [<- HQ.out,HN.out,hid];rfl);have HI:Hid (∀W,Calls Tryz.prog 108 #[.string s.name] W fun e w'=>e = .returned (.bool false)/\Below W.heap.size W w'):=aF (fun W=>by rw [<- hid];exact fF s.name W);clear hid hown HN;go_wp2_with (go_at_call 108;refine (HI.out _).mono ?_;rintro e' w1 ⟨rfl,hb1⟩)
    go_ret;exact ⟨by rw [HF.out];rfl,((nC hB.out).alloc (by omega) _).trans (hb1.mono (by simp;omega))⟩
   ·have hkey:=key9 hid;have HI:Hid (∀W,Calls Tryz.prog 108 #[.string s.name] W fun e w'=>e = .returned (.bool true)/\Below W.heap.size W w'):=aF (fun W=>by rw [<- hid];exact fF s.name W);have HM:=aF (oS ns s.name);rw [hid] at HN;clear hid;cases hm:memN s.name ns
    case true=>
     have HF:Hid (Q=21):=aF (by rw [<- HQ.out,HN.out,hm];rfl);have HS:Hid (strF (seenF ns) (.string s.name.data.toList)=true):=aF (by simp only [strF];rw [HM.out,hm]);clear hm HN HM
     go_wp2_with (first
      | (go_at_call 108;refine (HI.out _).mono ?_;rintro e' w1 ⟨rfl,hb1⟩;have hown1:=(hown.alloc _).below hb1;obtain ⟨z0,z1⟩:=qC wr (.string s.name) (.int .i64 s.type) 48;replace z0:=cN hb1 z0;replace z1:=cN hb1 z1;have z3:=keepA hb1 x3)
      | (at_lookup;refine dI _ rfl _ _ 200 rfl 9 4 law9 Tryz.underlying200 Tryz.underlying4 (zeroB _) _ _ _ rfl hown1 _ _ rfl hkey ?_;rw [HS.out]))
     go_ret;exact ⟨by rw [HF.out];rfl,((nC hB.out).alloc (by omega) _).trans (hb1.mono (by simp;omega))⟩
    case false=>
     have HS:Hid (strF (seenF ns) (.string s.name.data.toList)=false):=aF (by simp only [strF];rw [HM.out,hm]);rw [hm] at HN;have HT:Hid ((s.type<0\/(b.types.length:Int)<=s.type)->Q=3):=aF (fun h=>by rw [<- HQ.out,HN.out];simp only [Bool.true_eq_false,Bool.false_eq_true,if_false];rw [bA h];rfl);have HG:Hid (¬(s.type<0\/(b.types.length:Int)<=s.type)->R=localsE b.types.length (s.name :: ns) (b.locals.drop (k+1))):=aF (fun h=>by rw [HN.out];simp only [Bool.true_eq_false,Bool.false_eq_true,if_false];rw [aZ h]);clear hm HN HM;by_cases hty:s.type<0\/(b.types.length:Int)<=s.type
     ·have HF:=aF (HT.out hty);clear HT HG
      go_wp2_with (first
       | (go_at_call 108;refine (HI.out _).mono ?_;rintro e' w1 ⟨rfl,hb1⟩;have hown1:=(hown.alloc _).below hb1;obtain ⟨z0,z1⟩:=qC wr (.string s.name) (.int .i64 s.type) 48;replace z0:=cN hb1 z0;replace z1:=cN hb1 z1;have z3:=keepA hb1 x3)
       | (at_lookup;refine dI _ rfl _ _ 200 rfl 9 4 law9 Tryz.underlying200 Tryz.underlying4 (zeroB _) _ _ _ rfl hown1 _ _ rfl hkey ?_;rw [HS.out]))
      all_goals first
       | (exfalso;omega)
       | (go_ret
          exact ⟨by rw [HF.out];rfl,((nC hB.out).alloc (by omega) _).trans (hb1.mono (by simp;omega))⟩)
     ·have HF:=aF (HG.out hty);clear HT HG;have e1:¬s.type<0:=(by omega);have e2:¬(b.types.length:Int)<=s.type:=(by omega);clear hty
      go_wp2_with (first
       | (go_at_call 108;refine (HI.out _).mono ?_;rintro e' w1 ⟨rfl,hb1⟩;have hown1:=(hown.alloc _).below hb1;obtain ⟨z0,z1⟩:=qC wr (.string s.name) (.int .i64 s.type) 48;replace z0:=cN hb1 z0;replace z1:=cN hb1 z1;have z3:=keepA hb1 x3)
       | (at_lookup;refine dI _ rfl _ _ 200 rfl 9 4 law9 Tryz.underlying200 Tryz.underlying4 (zeroB _) _ _ _ rfl hown1 _ _ rfl hkey ?_;rw [HS.out])
       | (at_mapUpdate;refine eK _ rfl _ _ _ 200 rfl 9 4 law9 Tryz.underlying200 Tryz.underlying4 _ _ _ rfl hown1 (by unfold maxLen;omega) _ _ _ rfl rfl hkey trivial _ (oR ns s.name) (oQ ns s.name) ?_;intro w2 hown2 hg2))
      go_roundw
      case rel=>
       have hsz1:=hb1.size;simp only [bI] at hsz1;exact ⟨k+1,s.name :: ns,by omega,by go_num,hown2,aF (((hB.out.alloc (by omega) _).trans (hb1.mono (by simp;omega))).trans (eG hg2 (by omega) (by omega))),HF⟩
      case measure=>simp [intOf];omega
  ·have HN:Hid (R=0):=aF (by rw [hr.out,bE (by omega)];rfl);have HF:Hid (Q=if b.args<0\/(b.locals.length:Int)<b.args then 3 else 0):=aF (by rw [<- HQ.out,HN.out,bA rfl]);clear hr hown;by_cases ha:b.args<0\/(b.locals.length:Int)<b.args
   ·rw [bA ha] at HF;go_wp2_with fail
    all_goals first
     | (exfalso;omega)
     | (go_ret;exact ⟨by rw [HF.out];rfl,nC hB.out⟩)
   ·rw [aZ ha] at HF;have e1:¬b.args<0:=(by omega);have e2:¬(b.locals.length:Int)<b.args:=(by omega);clear ha;go_wp2_with fail
    go_ret;exact ⟨by rw [HF.out];rfl,nC hB.out⟩
end
section
open Go Go.RowKit
def BxC (w:World) (n:Nat) (b:Bdy) (bh:BH):Prop:=∀i v,(bdC b bh)[i]?=some v->w.cell? ⟨n,i,none⟩=some v
theorem BxC.new (w:World) (b:Bdy) (bh:BH):BxC (bxW w b bh) w.heap.size b bh:=fun i v hi=>oB (aX _ _) i v hi
theorem BxC.keep {w w':World} {n:Nat} {b:Bdy} {bh:BH} (h:BxC w n b bh) (hb:Below w.heap.size w w'):BxC w' n b bh:=fun i v hi=>cN hb (h i v hi)
theorem xBJ (W:World) (x y z u:Int) (T:TypeId) (k:Nat) (hk:k=W.heap.size):Slc 1 RInt (W.alloc (.cells #[.int .i64 x,.int .i64 y,.int .i64 z,.int .i64 u] T)) (some ⟨k,0,none⟩) 4 [x,y,z,u]:=by
 subst hk;refine ⟨fun _=>⟨_,_,rfl,by simp,fun i q hi=>?_⟩,by simp,by omega⟩;show (W.alloc _).cell? ⟨W.heap.size,0+i * 1,none⟩=_;rw [World.cell?_alloc_at _ _ _ _ (by simp),Nat.zero_add,Nat.mul_one];match i,hi with
 | 0,hi=>simp at hi;subst hi;rfl
 | 1,hi=>simp at hi;subst hi;rfl
 | 2,hi=>simp at hi;subst hi;rfl
 | 3,hi=>simp at hi;subst hi;rfl
 | i+4,hi=>simp at hi
theorem xBM (b:Bdy) (bh:BH) (w:World) (H:BdAt w b bh):
 Calls Tryz.prog 69 #[.agg (bdC b bh).toArray] w fun e' w'=>e' = .returned (.int .i64 (declC b))/\Below w.heap.size w w':=by
 have HX:=aF (BxC.new w b bh);have HH:=aF H;have HB0:=aF (lW w b bh);have r1:=H.reg.le;have r2:=H.reg.big;have b1:=H.blk.le;have b2:=H.blk.big;have HID:=aF (fF b.name (bxW w b bh));unfold declC;obtain ⟨Q,hQ⟩:∃Q,(if isIdent b.name=false then 12 else if firstE [namesC b.regions,pairsC b.regions.length b.outl,typesC b.regions.length b.types,localsC b]=0 then (if b.blocks.length=0\/65535<b.blocks.length then 15 else 0) else firstE [namesC b.regions,pairsC b.regions.length b.outl,typesC b.regions.length b.types,localsC b])=Q:=⟨_,rfl⟩;rw [hQ];have HQ:=aF hQ;clear hQ H;cases hid:isIdent b.name
 ·rw [hid] at HID HQ;have HF:Hid (Q=12):=aF HQ.out.symm;clear hid HQ;unfold bdC;go_enter Tryz.func69,Tryz.ntmps69
  go_wp2_with (go_at_call 108;refine HID.out.mono ?_;rintro e' w1 ⟨rfl,hb1⟩)
  go_ret;exact ⟨by rw [HF.out];rfl,HB0.out.trans (hb1.mono HB0.out.size)⟩
 rw [hid] at HID HQ;have HQ':Hid (Q=if firstE [namesC b.regions,pairsC b.regions.length b.outl,typesC b.regions.length b.types,localsC b]=0 then (if b.blocks.length=0\/65535<b.blocks.length then 15 else 0) else firstE [namesC b.regions,pairsC b.regions.length b.outl,typesC b.regions.length b.types,localsC b]):=aF HQ.out.symm;clear hid HQ;have HN:=aF (fun W (hb:Below w.heap.size w W)=>xG b.regions bh.A1 bh.c1 W (HH.out.keep hb).reg);have HP:=aF (fun W (hb:Below w.heap.size w W)=>mO b.outl b.regions.length bh.A2 bh.c2 W (HH.out.keep hb).out);have HT:=aF (fun W (hb:Below w.heap.size w W)=>tP b.types b.regions.length bh.A3 bh.c3 W (HH.out.keep hb).typ);have HL:=aF (fun W (hb:Below w.heap.size w W)=>uS b bh W (HH.out.keep hb));generalize namesC b.regions=E1 at HN HQ';generalize pairsC b.regions.length b.outl=E2 at HP HQ';generalize typesC b.regions.length b.types=E3 at HT HQ';generalize localsC b=E4 at HL HQ';have HFI:=aF (fR [E1,E2,E3,E4]);generalize firstE [E1,E2,E3,E4]=E at HFI HQ';unfold bdC at HL ⊢;go_enter Tryz.func69,Tryz.ntmps69
 go_wp2_with (go_at_call 108;refine HID.out.mono ?_;rintro e' w1 ⟨rfl,hb1⟩;have x1:=HX.out.keep hb1 1 _ rfl)
 have hX1:BxC w1.drew w.heap.size b bh:=(HX.out.keep hb1).keep ((aX _ _).drew);have hB1:Below w.heap.size w w1.drew:=(HB0.out.trans (hb1.mono HB0.out.size)).drew;have HB1:=aF hB1;have hS:=hX1;clear hX1 hB1 hb1;refine cR (S:=fun X=>BxC X w.heap.size b bh) [0,1,3,4,5,7,8,9,11,2,6,10,12,13,14,15] (by kernel_rfl) ?_;(iterate 9 (refine cS (v:=?_) ?_ hS ?_;rotate_left;(next=>(rintro X hX;obtain ⟨s0,s1,s2,s3,s4,s5,s6⟩:=aS hX;(try simp only [aI]);go_simp;rfl));simp only [aM]));(refine cV (fun K1 hK1=>?_);simp only [aM];rw [bA (by rfl)];go_simp);refine (HN.out _ HB1.out).mono ?_;rintro e' w2 ⟨rfl,hb⟩;replace hS:=hS.keep hb;have HB2:=aF (HB1.out.trans (hb.mono HB1.out.size));clear hb HB1;refine hK1.out _ _ (fun _=>hS) ?_;clear HN;(refine cV (fun K1 hK1=>?_);simp only [aM];rw [bA (by rfl)];go_simp);refine (HP.out _ HB2.out).mono ?_;rintro e' w3 ⟨rfl,hb⟩;replace hS:=hS.keep hb;have HB3:=aF (HB2.out.trans (hb.mono HB2.out.size));clear hb HB2;refine hK1.out _ _ (fun _=>hS) ?_;clear HP;(refine cV (fun K1 hK1=>?_);simp only [aM];rw [bA (by rfl)];go_simp);refine (HT.out _ HB3.out).mono ?_;rintro e' w4 ⟨rfl,hb⟩;replace hS:=hS.keep hb;have HB4:=aF (HB3.out.trans (hb.mono HB3.out.size));clear hb HB3;refine hK1.out _ _ (fun _=>hS) ?_;clear HT;(refine cV (fun K1 hK1=>?_);simp only [aM];rw [bA (by rfl)];go_simp);refine (HL.out _ HB4.out).mono ?_;rintro e' w5 ⟨rfl,hb⟩;replace hS:=hS.keep hb;have HB5:=aF (HB4.out.trans (hb.mono HB4.out.size));clear hb HB4;refine hK1.out _ _ (fun _=>hS) ?_;clear HL;(refine cV (fun K1 hK1=>?_);simp only [aM];rw [bA (by rfl)];go_simp);have HNW:=aF (xBJ w5 E1 E2 E3 E4 31 _ rfl);have hbn:Below w5.heap.size w5 (w5.alloc (.cells #[.int .i64 E1,.int .i64 E2,.int .i64 E3,.int .i64 E4] 31)):=(aX _ _).alloc (aY _) _;replace hS:=hS.keep hbn;have HB6:=aF (HB5.out.trans (hbn.mono HB5.out.size));clear hbn;refine hK1.out _ _ (fun _=>hS) ?_;(refine cV (fun K1 hK1=>?_);simp only [aM];rw [bA (by rfl)];go_simp);refine (HFI.out _ 4 _ HNW.out).mono ?_;rintro e' w6 ⟨rfl,hw⟩;obtain rfl:=hw.symm;refine hK1.out _ _ (fun _=>hS) ?_;((refine cS (v:=?_) ?_ hS ?_;rotate_left;(next=>(rintro X hX;have s0:=hX 0 _ rfl;(try simp only [aI]);go_simp;rfl));simp only [aM]))
 refine dA ?_;have x6:=hS 6 _ rfl;clear hS HH HX HB0 HNW;by_cases he:E=0
 ·have HF:Hid (Q=if b.blocks.length=0\/65535<b.blocks.length then 15 else 0):=aF (by rw [HQ'.out,bA he]);subst he;clear HQ';obtain ⟨m,hm⟩:∃m,b.blocks.length=m:=⟨_,rfl⟩;rw [hm] at HF x6 b1;rw [hm];clear hm;by_cases hbl:m=0\/65535<m
  ·rw [bA hbl] at HF;rcases hbl with rfl | hbl
   ·go_wp2_with fail
    go_ret;exact ⟨by rw [HF.out];rfl,HB6.out⟩
   ·have e1:((m:Int) == 0)=false:=by simp;omega
    go_wp2_with fail
    go_ret;exact ⟨by rw [HF.out];rfl,HB6.out⟩
  ·rw [aZ hbl] at HF;have e1:((m:Int) == 0)=false:=by simp;omega
   have e2:¬(65535:Int)<m:=by omega
   clear hbl;go_wp2_with fail
   go_ret;exact ⟨by rw [HF.out];rfl,HB6.out⟩
 ·have HF:Hid (Q=E):=aF (by rw [HQ'.out,aZ he]);have e1:(E != 0)=true:=by simp [he]
  clear HQ';go_wp2_with fail
  go_ret;exact ⟨by rw [HF.out];rfl,HB6.out⟩
theorem kS {α : Type} {enc : α -> Value} {R:Rd α} (hR:∀(w:World) (B b o:Nat) (x : α),w.cell? ⟨b,o,none⟩=some (enc x)->R w B b o x) {w:World} {base n:Nat} {e:TypeId} {v:Value} {xs:List α}
 (h:w.ownsRow base e 1 v n (xs.map enc)) (hn:xs.length=n):∃A c,v = .slice A n c/\Slc 1 R w A c xs/\(∀a,A=some a->base<=a.block/\a.block<w.heap.size):=by
 subst hn;have h0:=h;rcases h.2 with ⟨rfl,hz⟩ | ⟨g,cap,cur,rfl,hg,hh,hnc,hm,_,_⟩
 ·have:xs=[]:=List.length_eq_zero_iff.1 (by omega);subst this;exact ⟨none,0,rfl,⟨Sl.nil,by simp,by omega⟩,fun a h=>by cases h⟩
 ·have hgl:=(Array.getElem?_eq_some_iff.1 hh).1;refine ⟨some ⟨g,0,none⟩,cap,rfl,⟨fun _=>⟨g,0,rfl,hgl,fun i x hx=>?_⟩,by simpa using hnc,by simp only [maxLen] at hm;omega⟩,fun a ha=>?_⟩
  ·have hc:=h0.cells (g:=g) rfl i (enc x) (by rw [cM,hx];rfl);rw [add0] at hc;exact hR w _ g _ x (by simpa using hc)
  ·injection ha with ha
   subst ha;exact ⟨hg,hgl⟩
theorem lC {X:World} {b m n:Nat} {e:TypeId} {v:Value} {xs:List Value} (h:X.ownsRow b e m v n xs):∃A c,v = .slice A n c:=by
 rcases h.2 with ⟨h1,h2⟩ | ⟨g',cap,cur,h1,_⟩
 ·exact ⟨none,0,by rw [h1,h2]⟩
 ·exact ⟨_,cap,h1⟩
theorem alF (w:World) (o:Obj):Below w.heap.size w (w.alloc o):=(aX _ _).alloc (aY _) _
def szN (s:ByteArray):Nat:=min s.size 9000
def sumN (l:List ByteArray):Nat:=(l.map (fun s=>1+szN s)).sum
theorem kQ (l:List ByteArray) (s:ByteArray):sumN (l ++ [s])=sumN l+(1+szN s):=by simp [sumN]
theorem kX (w:World) (cs:List Value) (t:TypeId) (j:Nat) (u:Value) (h:cs[j]?=some u):(w.alloc (.cells cs.toArray t)).cell? ⟨w.heap.size,j,none⟩=some u:=by
 rw [World.cell?_alloc_at _ _ _ _ (by simp)];simpa using h
theorem xHE (w:World) (x:ByteArray):∀j u,[Value.string x][j]?=some u->(w.alloc (.cells #[.string x] 9)).cell? ((⟨w.heap.size,0,none⟩:Addr).add j)=some u:=fun j u hj=>by
 rw [add0];exact kX w [.string x] 9 j u hj
theorem xHD (x:ByteArray):∀u∈[Value.string x],u.oneCell'=true:=fun u hu=>by simp at hu;subst hu;rfl
end
section
open Go.RowKit
section
variable {P:Program} {ops:Array Oper} {Q:Exit->Act->World->Prop} {md:Region.Mode} {S:World->Prop} {t:Nat}
def waitsB (md:Region.Mode) (ops:Array Oper) (U:List Nat) (i j:Nat):Bool:=match ops[j]? with
 | some oj=>oj.after.any (fun e=>Region.binds md e && (e.on == i || U.contains e.on))
 | none=>false
def behind (md:Region.Mode) (ops:Array Oper) (listed:Array Bool) (i:Nat):Nat->List Nat->List Nat
 | 0,U=>U
 | n+1,U=>behind md ops listed i n ((List.range ops.size).filter fun j=> !listed.getD j true && (decide (j≠i) && waitsB md ops U i j))
def okU (md:Region.Mode) (ops:Array Oper) (listed:Array Bool) (i:Nat) (U:List Nat):Bool:=U.all fun j=> !listed.getD j true && (decide (j≠i) && waitsB md ops U i j)
def lateU (ops:Array Oper) (t:Nat) (listed:Array Bool) (i:Nat) (U:List Nat):Bool:=
 (List.range ops.size).all fun j=>listed.getD j true || decide (j=i) || U.contains j || match ops[i]?,ops[j]? with
   | some oi,some oj=>oi.apart ops oj && decide (j<t)
   | _,_=>true
theorem nG {i:Nat} {oi:Oper} {v:Value} {U:List Nat} (hi:ops[i]?=some oi) (hsel:∀(j:Nat) (o:Oper) cs b,ops[j]?=some o->o.op ≠ .select cs b)
 (hQ:∀c a w,Q (.panic c) (a.put oi.dst v) w->Q (.panic c) a w) (hU:∀j∈U,j≠i/\waitsB md ops U i j=true):
 ∀(fuel:Nat) (listed:Array Bool) (a:Act) (w:World),(∀j∈U,listed.getD j true=false)->
  (∀j oj,ops[j]?=some oj->j≠i->listed.getD j true=false->j∉U->oi.apart ops oj=true/\j<t)->
  i∈Region.ready md ops listed->YieldsIf P ops S oi v a->S w->
  wpAnyM P md ops Q S t fuel (listed.setIfInBounds i true) (a.put oi.dst v) w->wpAnyM P md ops Q S t (fuel+1) listed a w:=by
 intro fuel;induction fuel with
 | zero=>
   intro listed a w _ _ hr hy hS H;refine ⟨fun h=>(by rw [h] at hr;cases hr),fun j hj=>?_⟩;by_cases hji:j=i
   ·subst hji;exact hy.wpOp hi hS ⟨fun _=>hS,H⟩
   ·have:=ready_mono hj hji;rw [H.1] at this;cases this
 | succ fuel ih=>
   intro listed a w hUl hfree hr hy hS H;refine ⟨fun h=>(by rw [h] at hr;cases hr),fun j hj=>?_⟩;by_cases hji:j=i
   ·subst hji;exact hy.wpOp hi hS ⟨fun _=>hS,H⟩
   ·have h1:=H.2 j (ready_mono hj hji);obtain ⟨hjun,oj,hoj,hall⟩:=mem_ready.1 hj
    have unl:∀(k:Nat),listed.getD k true=false->listed.getD k false=true->False:=fun k h0 h1=>by
     rcases Nat.lt_or_ge k listed.size with h' | h'
     ·simp [h'] at h0 h1;rw [h0] at h1;cases h1
     ·simp [Array.getElem?_eq_none h'] at h1
    have hnot:j∉U:=fun hm=>by
     obtain ⟨_,hw⟩:=hU j hm;unfold waitsB at hw;rw [hoj] at hw;obtain ⟨e,he,hb⟩:=Array.any_eq_true'.1 hw;simp only [bQ,Bool.or_eq_true,beq_iff_eq] at hb;have h2:=hall e he hb.1;rcases hb.2 with heq | heq
     ·rw [heq] at h2;exact unl i (mem_ready.1 hr).1 (by simpa using h2)
     ·exact unl e.on (hUl e.on (by simpa using heq)) (by simpa using h2)
    have h2:=wpOp_putIf hoj (hfree j oj hoj hji hjun hnot).1 (fun cs b=>hsel i oi cs b hi) (fun cs b=>hsel j oj cs b hoj) hQ hy h1;have hjt:=(hfree j oj hoj hji hjun hnot).2;have hset:∀k,k≠j->(listed.setIfInBounds j true).getD k true=listed.getD k true:=fun k hk=>getD_set_ne true (fun e=>hk e.symm)
    have hUl':∀k∈U,(listed.setIfInBounds j true).getD k true=false:=fun k hk=>by
     rw [hset k (fun e=>hnot (e ▸ hk))];exact hUl k hk
    have hfree':∀k ok,ops[k]?=some ok->k≠i->(listed.setIfInBounds j true).getD k true=false->k∉U->oi.apart ops ok=true/\k<t:=fun k ok hk hki hun hno=>by
     refine hfree k ok hk hki ?_ hno;by_cases hjk:j=k
     ·subst hjk;exact hjun
     ·rw [hset k (fun e=>hjk e.symm)] at hun;exact hun
    refine wpOp_mono (fun a' w' h3=>⟨h3.2.1,ih (listed.setIfInBounds j true) a' w' hUl' hfree' (ready_mono hr (Ne.symm hji)) h3.1 (h3.2.1 hjt) ?_⟩) h2;rw [Array.setIfInBounds_comm _ _ hji];exact h3.2.2
def okO2 (ops:Array Oper) (t:Nat) (ord:List Nat) (k:Nat):Bool:=
 let l:=lstO ops.size ord k
 let i:=ord.getD k 0
 let U:=behind .any ops l i ops.size []
 decide (k<ord.length) && (decide (k<ops.size) && (decide (i<ops.size) && (Region.noSelect ops && (okU .any ops l i U && (lateU ops t l i U && (Region.ready .any ops l).contains i)))))
theorem eJ {t:Nat} {ord:List Nat} {k:Nat} {v:Value} {a:Act} {w:World} (hok:okO2 ops t ord k=true) (hQ:∀c a w,Q (.panic c) (a.put ((ops[ord.getD k 0]?).getD default).dst v) w->Q (.panic c) a w)
 (hy:YieldsIf P ops S ((ops[ord.getD k 0]?).getD default) v a) (hS:S w) (h:wpO P ops Q S t ord (k+1) (a.put ((ops[ord.getD k 0]?).getD default).dst v) w):wpO P ops Q S t ord k a w:=by
 simp only [okO2,bQ,decide_eq_true_eq] at hok;obtain ⟨h0,hk0,hk,h1,h2,h3,h4⟩:=hok;have ho:ops[ord.getD k 0]?=some ((ops[ord.getD k 0]?).getD default):=by rw [Array.getElem?_eq_getElem hk];rfl
 unfold wpO at h ⊢;rw [show ops.size - k=(ops.size - (k+1))+1 by omega];have hu:=List.all_eq_true.1 h2;refine nG (U:=behind .any ops (lstO ops.size ord k) (ord.getD k 0) ops.size []) ho (Region.noSelect_spec h1) hQ (fun j hj=>?_) _ _ a w (fun j hj=>?_) (fun j oj hj hne hun hno=>?_) (by simpa using h4) hy hS ?_
 ·have:=hu j hj;simp only [bQ,decide_eq_true_eq] at this;exact this.2
 ·have:=hu j hj;simp only [bQ,Bool.not_eq_true'] at this;exact this.1
 ·have:=List.all_eq_true.1 h3 j (List.mem_range.2 (Array.getElem?_eq_some_iff.1 hj).1);rw [ho,hj] at this;simp only [hun,Bool.false_or,Bool.or_eq_true,decide_eq_true_eq,bQ,List.contains_iff_mem] at this;rcases this with (h5 | h5) | h5
  ·exact absurd h5 hne
  ·exact absurd h5 hno
  ·exact h5
 ·rw [lL h0];exact h
end
end
section
open Go Go.RowKit
theorem xBT (w:World) (b:Nat) (c:UInt8) (h:w.cell? ⟨b,0,none⟩=some (.int .u8 c.toNat)):
 (convert 68 9 (.slice (some ⟨b,0,none⟩) 1 1)).run Tryz.prog w = .ok (tx [c]) w:=
 run_convert_bytes_back w _ _ 5 ⟨b,0,none⟩ 1 [c] Tryz.underlying68 Tryz.underlying5 Tryz.underlying9 (fun j hj=>by
  obtain rfl:j=0:=by simpa using hj
  exact h)
theorem rW (n:Int) (h0 : -9223372036854775808<=n) (h1:n<=9223372036854775807) (w:World):
 Calls Tryz.prog 82 #[.int .i64 n] w fun e' w'=>e' = .returned (tx (Lib.itoa n))/\Below w.heap.size w w':=by
 obtain ⟨R,hR⟩:∃R,Lib.decDigits n.natAbs=R:=⟨_,rfl⟩;have HR:=aF hR
 have hRl:R.length<=21:=by
  have:=Lib.itoa_length_le n h0 h1;unfold Lib.itoa at this;rw [<- hR];split at this
  ·rw [bK] at this;omega
  ·rw [show n.toNat=n.natAbs by omega] at this;exact this
 clear hR;go_enter Tryz.func82,Tryz.ntmps82
 go_wp2_with fail
 go_loopw [3,4,5] (fun s m d wr=>∃(l:List UInt8) (x:Int),s=tx l/\m = .int .i64 x/\d=d/\ -9223372036854775808<=x/\x<=9223372036854775807/\Hid (R=Lib.decDigits x.natAbs ++ l)/\Hid (Below w.heap.size w wr)) (fun _ m _ _=>(intOf m).natAbs)
 case atStart=>exact ⟨[],n,rfl,rfl,rfl,h0,h1,aF (by rw [HR.out];simp),aF (aX _ _)⟩
 case round=>
  obtain ⟨l,x,rfl,rfl,_,hx0,hx1,HG,HB⟩:=hrel;obtain ⟨D,hD⟩:∃D,(x.tmod 10).natAbs=D:=⟨_,rfl⟩;have hlt:D<10:=by rw [<- hD,Int.natAbs_tmod];exact Nat.mod_lt _ (by decide)
  have hw:(48+(D:Int))=((UInt8.ofNat (48+D)).toNat:Int):=by
   rw [UInt8.toNat_ofNat'];omega
  obtain ⟨c,hc⟩:∃c,UInt8.ofNat (48+D)=c:=⟨_,rfl⟩;have HC:=aF hc;rw [hc] at hw;have HCV:=aF (fun (W:World)=>xBT (W.alloc (.cells #[.int .u8 (48+(D:Int))] 5)) W.heap.size c (by rw [World.cell?_alloc_at _ _ _ _ (by simp),<- hw];rfl));have hcv:=HCV.out wr
  have hll:l.length<=21:=by
   have:=congrArg List.length HG.out;rw [bB] at this;omega
  have hz1:¬(9223372036854775807<1+l.length):=by omega
  have hz2:¬(9223372036854775807<1+(l.length+1)):=by omega
  clear hll;clear hc hw HCV;have ea:(⟨#[c]⟩:ByteArray) ++ ⟨l.toArray⟩=⟨(c :: l).toArray⟩:=fT [c] l;have eb:∀r:List UInt8,(⟨#[45]⟩:ByteArray) ++ ⟨r.toArray⟩=⟨(45 :: r).toArray⟩:=fun r=>fT [45] r
  have HL:Hid (R=(if -10<x/\x<10 then c :: l else Lib.decDigits (x.tdiv 10).natAbs ++ c :: l)):=aF (by
   rw [HG.out,<- HC.out,<- hD];split
   ·rename_i h;exact (xBO h.1 h.2 l).symm
   ·rename_i h;exact (xBN h l).symm)
  have HT:Hid (¬(-10<x/\x<10)->(x.tdiv 10).natAbs<x.natAbs/\ -9223372036854775808<=x.tdiv 10/\x.tdiv 10<=9223372036854775807):=aF (fun h=>by
   have:(x.tdiv 10).natAbs=x.natAbs / 10:=Int.natAbs_tdiv x 10
   omega)
  have HS:Hid (x.tmod 10<0\/0<=x.tmod 10):=aF (by omega);have hq:(-10<x/\x<10)\/¬(-10<x/\x<10):=by omega
  have hsg:(0<=x.tmod 10/\x.tmod 10=D)\/(x.tmod 10<0/\x.tmod 10 = -(D:Int)):=by omega
  clear HG hD HC;rcases hsg with ⟨hs,e0⟩ | ⟨hs,e0⟩
  all_goals rcases hq with ⟨q1,q2⟩ | q
  case inl.inl | inr.inl=>
   have HF:Hid (R=c :: l):=aF (by rw [HL.out,bA ⟨q1,q2⟩]);clear HL HT HS;rcases Int.lt_or_le n 0 with hn | hn
   ·have HE:Hid (Lib.itoa n=45 :: c :: l):=aF (by unfold Lib.itoa;rw [bA hn,HR.out,HF.out]);clear HF;go_wp2_with fail
    go_ret;exact ⟨by rw [HE.out];rfl,by have hb0:=HB.out;have hb1:=hb0.size;exact aH⟩
   ·have HE:Hid (Lib.itoa n=c :: l):=aF (by unfold Lib.itoa;rw [aZ (by omega),show n.toNat=n.natAbs by omega,HR.out,HF.out]);clear HF;go_wp2_with fail
    go_ret;exact ⟨by rw [HE.out];rfl,by have hb0:=HB.out;have hb1:=hb0.size;exact aH⟩
  all_goals
   have HF:Hid (R=Lib.decDigits (x.tdiv 10).natAbs ++ c :: l):=aF (by rw [HL.out,aZ q]);have hq2:x <= -10\/(-10<x/\10<=x):=by omega
   have HT2:=aF (HT.out q);have hy1:=(HT.out q).2.1;have hy2:=(HT.out q).2.2;clear HL HT HS q;obtain ⟨y,hy⟩:∃y,x.tdiv 10=y:=⟨_,rfl⟩;rw [hy] at HF HT2 hy1 hy2;rcases hq2 with q1 | ⟨q1,q2⟩
   all_goals
    go_wp2_with fail
    exact ⟨⟨c :: l,y,rfl,rfl,trivial,HT2.out.2.1,HT2.out.2.2,HF,aF (by have hb0:=HB.out;have hb1:=hb0.size;exact aH)⟩,HT2.out.1⟩
theorem fX (n:Int) (h0 : -9223372036854775808<=n) (h1:n<=9223372036854775807) (w:World):
 Calls Tryz.prog 39 #[.int .i64 n] w fun e' w'=>e' = .returned (tx (Lib.itoa n))/\Below w.heap.size w w':=by
 have HD:=aF (fun W=>rW n h0 h1 W);go_enter Tryz.func39,Tryz.ntmps39
 go_wp2_with (go_at_call 82;refine (HD.out _).mono ?_;rintro e' w1 ⟨rfl,hb1⟩)
 go_ret;exact ⟨rfl,hb1⟩
def fitJ (x:Pj):Prop:= -9223372036854775808<=x.field/\x.field<=9223372036854775807
abbrev Sm (l:List UInt8):Prop:=l.length<=140737488355328
theorem nm_at {ls:List Lc} {k:Nat} (h:k<ls.length):nmP ls (k:Int)=bl (ls[k]).name:=by
 unfold nmP;rw [bW,bD h];rfl
theorem ba_l (a:List UInt8) (b:Array UInt8):(⟨a.toArray⟩:ByteArray) ++ ⟨b⟩=⟨(a ++ b.toList).toArray⟩:=ba_app' _ _
theorem ba_r (a:Array UInt8) (b:List UInt8):(⟨a⟩:ByteArray) ++ ⟨b.toArray⟩=⟨(a.toList ++ b).toArray⟩:=ba_app' _ _
theorem iO (b:Bdy) (bh:BH) (p:Plc) (A:Option Addr) (c:Nat) (w:World) (H:BdAt w b bh) (hp:Slc 2 RPj w A c p.proj) (hl:okI b.locals.length p.loc) (hf:∀x∈p.proj,fitJ x) (hz:Sm (placeP b.locals p)):
 Calls Tryz.prog 50 #[.agg (bdC b bh).toArray,.agg #[.int .i64 p.loc,.slice A p.proj.length c]] w fun e' w'=>e' = .returned (tx (placeP b.locals p))/\Below w.heap.size w w':=by
 obtain ⟨i,ps⟩:=p;simp only at hp hl hf ⊢;obtain ⟨k,rfl⟩:=bG hl.1;have hk:k<b.locals.length:=by have:=hl.2;omega
 obtain ⟨bb,oo,hA4,hbb,hx⟩:=H.loc.sl.at_ hk;have hle:=H.loc.le;have hbig:=H.loc.big;have hle2:=hp.le;have hbig2:=hp.big;have HP:=aF hp;have HF:=aF hf;obtain ⟨nm,hnm⟩:∃nm:List UInt8,bl (b.locals[k]).name=nm:=⟨_,rfl⟩;have x0:w.cell? ⟨bb,oo+k * 2,none⟩=some (tx nm):=by rw [<- hnm];have:=hx.1;rw [gD (b.locals[k]).name] at this;exact this
 obtain ⟨R,hR⟩:∃R,placeP b.locals ⟨k,ps⟩=R:=⟨_,rfl⟩;rw [hR] at hz ⊢;have HR:Hid (R=37 :: (nm ++ pjsP ps)):=aF (by rw [<- hR];unfold placeP;simp only;rw [nm_at hk,hnm])
 have hz0:¬(9223372036854775807<1+nm.length):=by
  have:=congrArg List.length HR.out;rw [bK,bB] at this;omega
 have HZ:=aF hz;have HN:=aF (fun (x:Pj) (hx:fitJ x) W=>fX x.field hx.1 hx.2 W);obtain ⟨A1,c1,A2,c2,A3,c3,A4,c4,A5,c5⟩:=bh;simp only at hA4 hle hbig hx;subst hA4;have e1:=ba_r #[37] nm;clear hR hx hnm hp hf hl hz H;unfold bdC at *;go_enter Tryz.func50,Tryz.ntmps50
 go_wp2_with fail
 go_loopw [5,6] (fun s v wr=>∃(l:List UInt8) (j:Nat),s=tx l/\v = .int .i64 j/\j<=ps.length/\Hid (R=l ++ pjsP (ps.drop j))/\Hid (Below w.heap.size w wr)/\Hid (wr.cell? ⟨w.heap.size+1,1,none⟩=some (.slice A ps.length c))) (fun _ v _=>ps.length - (intOf v).toNat)
 case atStart=>exact ⟨37 :: nm,0,rfl,rfl,Nat.zero_le _,aF (by rw [HR.out];rfl),aF aH,aF (by
  rw [World.cell?_alloc_at _ _ _ _ (by simp)];rfl)⟩
 case round=>
  obtain ⟨l,j,rfl,rfl,hj,HG,HB,HY⟩:=hrel;have y1:=HY.out;clear x0 hz0 e1;by_cases hlt:j<ps.length
  case neg=>
   have HE:Hid (R=l):=aF (by rw [HG.out,bE (by omega)];simp [pjsP]);clear HG;go_wp2_with fail
   go_ret;exact ⟨by rw [HE.out];rfl,HB.out⟩
  case pos=>
   have hd:=cY hlt;obtain ⟨b1,o1,rfl,hb1,z0,z1⟩:=(HP.out.keep RPj.keeps HB.out).sl.at_ hlt;have hfx:fitJ ps[j]:=HF.out _ (bN hlt);obtain ⟨x,hx⟩:∃x,ps[j]=x:=⟨_,rfl⟩;rw [hx] at hd z0 z1 hfx;obtain ⟨m,f⟩:=x;have HX:=aF (HN.out ⟨m,f⟩ hfx);have HL:Hid (R=l ++ (pjP ⟨m,f⟩ ++ pjsP (ps.drop (j+1)))):=aF (by rw [HG.out,hd];rfl);simp only at z0 z1 HX;clear HG hd hx;obtain ⟨t,ht⟩:∃t,Lib.itoa f=t:=⟨_,rfl⟩;have hj1:(j:Int)+1<=9223372036854775807:=by omega
   rcases Decidable.em (m=0) with rfl | hm
   ·have HQ:Hid (R=(l ++ [46,42]) ++ pjsP (ps.drop (j+1))):=aF (by rw [HL.out];simp [pjP])
    have hs1:¬(9223372036854775807<l.length+2):=by
     have:=congrArg List.length HQ.out;have:=HZ.out;simp only [bB,bK,bP] at *;omega
    have ea:=ba_l l #[46,42];clear HL ht HX;go_wp2_with fail
    exact ⟨⟨l ++ [46,42],j+1,rfl,by go_num,by omega,HQ,HB,HY⟩,by simp [intOf];omega⟩
   ·have HQ:Hid (R=(l ++ 46 :: t) ++ pjsP (ps.drop (j+1))):=aF (by rw [HL.out];simp [pjP,hm,ht])
    have hs1:¬(9223372036854775807<l.length+(t.length+1)):=by
     have:=congrArg List.length HQ.out;have:=HZ.out;simp only [bB,bK] at *;omega
    have hs2:¬(9223372036854775807<1+t.length):=(by omega);have ea:(⟨l.toArray⟩:ByteArray) ++ ⟨(46 :: t).toArray⟩=⟨(l ++ 46 :: t).toArray⟩:=fT l (46 :: t);have eb:(⟨#[46]⟩:ByteArray) ++ ⟨t.toArray⟩=⟨(46 :: t).toArray⟩:=ba_r #[46] t;have em:(m == 0)=false:=by simp [hm]
    rw [ht] at HX;clear HL ht hm;go_wp2_with (go_at_call 39;refine (HX.out _).mono ?_;rintro e' w1 ⟨rfl,hb2⟩;have y2:=cN hb2 y1)
    trace_state
    exact ⟨⟨l ++ 46 :: t,j+1,rfl,by go_num,by omega,HQ,aF (HB.out.trans (hb2.mono HB.out.size)),aF y2⟩,by simp [intOf];omega⟩
structure OkTy (rs:List ByteArray) (t:Ty):Prop where
 kind:0<=t.kind/\t.kind<=4
 ref:t.kind≠3->t.mu=false/\t.reg=0/\t.elem=0
 tup:t.kind≠4->t.flds=[]
 reg:t.kind=3->okI rs.length t.reg
structure OkRv (ls:List Lc) (rs:List ByteArray) (r:Rvl):Prop where
 kind:0<=r.kind/\r.kind<=4
 bor:r.kind≠1->r.reg=0/\r.mu=false/\r.place=⟨0,[]⟩
 isb:r.kind=1->r.op=0/\r.args=[]/\okI rs.length r.reg/\OkPl ls r.place
 op:r.kind=0\/r.kind=4->r.op=0
 use:r.kind=0->r.args.length=1
 una:r.kind=2->0<=r.op/\r.op<=1
 bin:r.kind=3->0<=r.op/\r.op<=5
 args:∀o∈r.args,OkOp ls o
theorem xCN {op:Int} (h:0<=op/\op<=5):op=0\/op=1\/op=2\/op=3\/op=4\/op=5:=by omega
structure OkSt (ls:List Lc) (rs:List ByteArray) (s:Stm):Prop where
 kind:0<=s.kind/\s.kind<=2
 asg:s.kind=0->s.loc=0/\OkPl ls s.place/\OkRv ls rs s.rv
 oth:s.kind≠0->s.place=⟨0,[]⟩/\s.rv=⟨0,0,0,false,⟨0,[]⟩,[]⟩
 dead:s.kind=1->okI ls.length s.loc
 nop:s.kind=2->s.loc=0
structure OkTm (ls:List Lc) (t:Trm):Prop where
 kind:0<=t.kind/\t.kind<=5
 one:t.kind=0\/t.kind=3\/t.kind=4->t.targets.length=1
 two:t.kind=1->t.targets.length=2/\t.args.length=1
 none:t.kind=2\/t.kind=5->t.targets=[]
 noargs:t.kind≠1->t.kind≠3->t.args=[]
 zero:t.kind≠3->t.kind≠4->t.place=⟨0,[]⟩
 noname:t.kind≠3->t.name=⟨#[]⟩
 call:t.kind=3->isIdent t.name=true
 place:t.kind=3\/t.kind=4->OkPl ls t.place
 args:∀o∈t.args,OkOp ls o
theorem kind_six {k:Int} (h:0<=k/\k<=5):k=0\/k=1\/k=2\/k=3\/k=4\/k=5:=by omega
theorem xF {l:List Int} (h:l.length=1):∃a,l=[a]:=match l,h with
 | [a],_=>⟨a,rfl⟩
theorem xFT {l:List Int} (h:l.length=2):∃a b,l=[a,b]:=match l,h with
 | [a,b],_=>⟨a,b,rfl⟩
structure OkBk (ls:List Lc) (rs:List ByteArray) (b:Blk):Prop where
 st:∀x∈b.stmts,OkSt ls rs x
 tm:OkTm ls b.term
def OkOut (n:Nat) (x:Int × Int):Prop:=okI n x.1/\okI n x.2
structure OkB (b:Bdy):Prop where
 name:isIdent b.name=true
 rs:NmRs b.regions
 out:∀x∈b.outl,OkOut b.regions.length x
 ty:∀t∈b.types,OkTy b.regions t
 ls:NmLs b.locals
 args:0<=b.args/\b.args<=b.locals.length
 bk:∀x∈b.blocks,OkBk b.locals b.regions x
theorem NmRs.all {rs:List ByteArray} (H:NmRs rs):∀x∈rs,isIdent x=true:=fun x hx=>by
 obtain ⟨i,e⟩:=List.mem_iff_getElem?.1 hx;exact H.id i x e
theorem NmLs.all {ls:List Lc} (H:NmLs ls):∀x∈ls,isIdent x.name=true:=fun x hx=>by
 obtain ⟨i,e⟩:=List.mem_iff_getElem?.1 hx;exact H.id i x e
def idxN (s:ByteArray):Nat->List ByteArray->Int
 | _,[]=> -1
 | k,x :: r=>if x=s then k else idxN s (k+1) r
theorem nV (s:ByteArray):∀(k:Nat) (l:List ByteArray),(0<=idxN s k l↔memN s l=true)
 | _,[]=>by simp [idxN,memN]
 | k,x :: r=>by
   unfold idxN;by_cases h:x=s
   ·rw [bA h];simp [memN,h]
   ·rw [aZ h,nV s (k+1) r];simp [memN,h]
theorem pP (l:List ByteArray) (s:ByteArray) (A:Option Addr) (c:Nat) (w:World) (hs:Slc 1 RN w A c l):
 Calls Tryz.prog 93 #[.slice A l.length c,.string s] w fun e' w'=>e' = .returned (.int .i64 (idxN s 0 l))/\w'=w:=by
 have hle:=hs.le;have hbig:=hs.big;obtain ⟨R,hR⟩:∃R,idxN s 0 l=R:=⟨_,rfl⟩;rw [hR];have HR:=aF hR;have HS:=aF hs;clear hR hs;go_enter Tryz.func93,Tryz.ntmps93
 go_wp2_with fail
 go_loop [5] (fun v=>∃k:Nat,k<=l.length/\v = .int .i64 k/\Hid (R=idxN s k (l.drop k))) (fun v=>l.length - (intOf v).toNat)
 case atStart=>exact ⟨0,by omega,rfl,aF HR.out.symm⟩
 case round=>
  obtain ⟨k,hk,rfl,hr⟩:=hrel;by_cases hlt:k<l.length
  ·have hd:=cY hlt;obtain ⟨b,o,rfl,hb,hx⟩:=HS.out.sl.at_ hlt;obtain ⟨y,hy⟩:∃y,l[k]=y:=⟨_,rfl⟩;rw [hy] at hd hx;have x0:w.cell? ⟨b,o+k,none⟩=some (.string y):=by simpa [RN] using hx
   have HN:Hid (R=if y=s then (k:Int) else idxN s (k+1) (l.drop (k+1))):=aF (by rw [hr.out,hd];rfl);clear hx hy hd hr;by_cases h0:y=s
   ·have HF:Hid (R=k):=aF (by rw [HN.out,bA h0]);subst h0;clear HN;go_wp2_with fail
    all_goals first
     | (go_ret;exact ⟨by rw [HF.out];rfl,rfl⟩)
     | (exfalso;simp_all;done)
   ·have HF:Hid (R=idxN s (k+1) (l.drop (k+1))):=aF (by rw [HN.out,aZ h0]);have e1:(y.toList == s.toList)=false:=beq_false_of_ne (fun h=>h0 (xCS (by rw [<- Lib.toList_data,<- Lib.toList_data];exact h)));clear HN h0;go_wp2_with fail
    go_round
    case rel=>exact ⟨k+1,by omega,by go_num,HF⟩
    case measure=>simp [intOf];omega
  ·have HN:Hid (R = -1):=aF (by rw [hr.out,bE (by omega)];rfl);clear hr;go_wp2_with fail
   go_ret;exact ⟨by rw [HN.out];rfl,rfl⟩
end
section
open Go Go.RowKit Go.Shelf
attribute [local go_sem] Oper.semAt_some
def encT (t:Tb):Array Value:= #[.agg #[.slice t.A t.xs.length t.c,.int .i64 t.f,.int .i64 t.s]]
theorem eV {N:Nat->Prop} {D:Nat} {T:TypeId->Bool} {A B:World} (h:Kb N D T A B) {p:Addr} {v:Value} (hN:N p.block) (hc:A.cell? p=some v):B.cell? p=some v:=
 (World.cell?_of_block (h.low _ hN (cE A p hc))).trans hc
def Pb (bf bp br:Nat):Nat->Prop:=fun k=>k=bf\/k=bp\/k=br
theorem tS (V:Array Value) (p r:Int) (w:World) (hV:V.size=5) (hE:∃A0 n0 c0 A1 n1 c1 A2 n2 c2 A3 n3 c3 A4 n4 c4,V = #[.slice A0 n0 c0,.slice A1 n1 c1,.slice A2 n2 c2,.slice A3 n3 c3,.slice A4 n4 c4]):
 Calls Tryz.prog 87 #[.agg V,.int .i64 p,.int .i64 r] w fun e' w'=>e' = .returned (.func (.func 136) #[] #[.pointer (some ⟨w.heap.size,0,none⟩),.pointer (some ⟨w.heap.size+1,0,none⟩),.pointer (some ⟨w.heap.size+1+1,0,none⟩)])/\
  w'=((w.alloc (.cells V 39)).alloc (.cells #[.int .i64 p] 3)).alloc (.cells #[.int .i64 r] 3):=by
 obtain ⟨A0,n0,c0,A1,n1,c1,A2,n2,c2,A3,n3,c3,A4,n4,c4,rfl⟩:=hE;clear hV;go_enter Tryz.func87,Tryz.ntmps87
 go_wp2
 go_ret;exact ⟨rfl,rfl⟩
theorem xFV (n:Nat) (hn:1<=n) (A0 A1 A2 A3 A4:Option Addr) (n0 c0 c1 c2 c3 c4:Nat) (x1 x2 x3 x4:List (Int × Int)) (p r:Int) (bf bp br:Nat) (w:World)
 (h0:w.cell? ⟨bf,0,none⟩=some (.slice A0 n0 c0)) (h1:w.cell? ⟨bf,1,none⟩=some (.slice A1 x1.length c1)) (h2:w.cell? ⟨bf,2,none⟩=some (.slice A2 x2.length c2)) (h3:w.cell? ⟨bf,3,none⟩=some (.slice A3 x3.length c3)) (h4:w.cell? ⟨bf,4,none⟩=some (.slice A4 x4.length c4))
 (hp:w.cell? ⟨bp,0,none⟩=some (.int .i64 p)) (hr:w.cell? ⟨br,0,none⟩=some (.int .i64 r)):
 SeqL Fence.wide n Tryz.prog 136 #[.pointer (some ⟨bf,0,none⟩),.pointer (some ⟨bp,0,none⟩),.pointer (some ⟨br,0,none⟩)] encT (fun _=>false) (Pb bf bp br) [⟨A1,x1,c1,p,p⟩,⟨A2,x2,c2,n0,p⟩,⟨A3,x3,c3,n0,p⟩,⟨A4,x4,c4,r,p⟩] w:=by
 intro l J Jx W hW hJ hJx hY hJ0;have g0:=cN hW h0;have g1:=cN hW h1;have gp:=cN hW hp;have G2:=aF (cN hW h2);have G3:=aF (cN hW h3);have G4:=aF (cN hW h4);have GR:=aF (cN hW hr);clear h0 h1 h2 h3 h4 hp hr;(refine callsIn_of_wp Tryz.func136 rfl trivial ?_ rfl;simp only [Tryz.ntmps136,List.size_toArray,bK,bP,Nat.reduceAdd,Nat.reduceSub,Array.replicate_succ,Array.replicate_zero,List.push_toArray,List.append_toArray,List.nil_append,List.cons_append]);obtain ⟨fn,tmps,assign,body,hy,hR⟩:=hY [] ⟨A1,x1,c1,p,p⟩ [⟨A2,x2,c2,n0,p⟩,⟨A3,x3,c3,n0,p⟩,⟨A4,x4,c4,r,p⟩] W rfl hJ0;rw [show encT ⟨A1,x1,c1,p,p⟩ = #[.agg #[.slice A1 x1.length c1,.int .i64 p,.int .i64 p]] from rfl] at hy;gi_wp2
 refine hR.mono ?_;clear hy hR;rintro e W1 (⟨rfl,hJ1,hK1⟩ | ⟨rfl,hJx1⟩)
 case inr=>
  gi_wp2
  refine ⟨by simp,?_⟩;gi_wp2
  go_end0
  exact ⟨⟨_,rfl⟩,.inr ⟨[],_,_,rfl,hJx1⟩⟩
 have gp1:=eV hK1 (Or.inr (Or.inl rfl)) gp;have g2:=eV hK1 (Or.inl rfl) G2.out;have G3b:=aF (eV hK1 (Or.inl rfl) G3.out);have G4b:=aF (eV hK1 (Or.inl rfl) G4.out);have GRb:=aF (eV hK1 (Or.inr (Or.inr rfl)) GR.out);clear G2 G3 G4 GR g0 g1 gp hK1 hJ0;obtain ⟨fn,tmps,assign,body,hy,hR⟩:=hY _ ⟨A2,x2,c2,n0,p⟩ [⟨A3,x3,c3,n0,p⟩,⟨A4,x4,c4,r,p⟩] W1 rfl hJ1;rw [show encT ⟨A2,x2,c2,n0,p⟩ = #[.agg #[.slice A2 x2.length c2,.int .i64 n0,.int .i64 p]] from rfl] at hy;gi_wp2
 refine hR.mono ?_;clear hy hR;rintro e W2 (⟨rfl,hJ2,hK2⟩ | ⟨rfl,hJx2⟩)
 case inr=>
  gi_wp2
  refine ⟨by simp,?_⟩;gi_wp2
  go_end0
  exact ⟨⟨_,rfl⟩,.inr ⟨[_],_,_,rfl,hJx2⟩⟩
 have gp2:=eV hK2 (Or.inr (Or.inl rfl)) gp1;have g3:=eV hK2 (Or.inl rfl) G3b.out;have G4c:=aF (eV hK2 (Or.inl rfl) G4b.out);have GRc:=aF (eV hK2 (Or.inr (Or.inr rfl)) GRb.out);clear G3b G4b GRb g2 gp1 hK2 hJ1;obtain ⟨fn,tmps,assign,body,hy,hR⟩:=hY _ ⟨A3,x3,c3,n0,p⟩ [⟨A4,x4,c4,r,p⟩] W2 rfl hJ2;rw [show encT ⟨A3,x3,c3,n0,p⟩ = #[.agg #[.slice A3 x3.length c3,.int .i64 n0,.int .i64 p]] from rfl] at hy;gi_wp2
 refine hR.mono ?_;clear hy hR;rintro e W3 (⟨rfl,hJ3,hK3⟩ | ⟨rfl,hJx3⟩)
 case inr=>
  gi_wp2
  refine ⟨by simp,?_⟩;gi_wp2
  go_end0
  exact ⟨⟨_,rfl⟩,.inr ⟨[_,_],_,_,rfl,hJx3⟩⟩
 have gp3:=eV hK3 (Or.inr (Or.inl rfl)) gp2;have g4:=eV hK3 (Or.inl rfl) G4c.out;have gr:=eV hK3 (Or.inr (Or.inr rfl)) GRc.out;clear G4c GRc g3 gp2 hK3 hJ2;obtain ⟨fn,tmps,assign,body,hy,hR⟩:=hY _ ⟨A4,x4,c4,r,p⟩ [] W3 rfl hJ3;rw [show encT ⟨A4,x4,c4,r,p⟩ = #[.agg #[.slice A4 x4.length c4,.int .i64 r,.int .i64 p]] from rfl] at hy;gi_wp2
 refine hR.mono ?_;clear hy hR;rintro e W4 (⟨rfl,hJ4,_⟩ | ⟨rfl,hJx4⟩)
 ·gi_wp2
  go_end0
  exact ⟨⟨_,rfl⟩,.inl hJ4⟩
 ·gi_wp2
  go_end0
  exact ⟨⟨_,rfl⟩,.inr ⟨[_,_,_],_,_,rfl,hJx4⟩⟩
end
end Go.Proofs.YtmknfbfppmkcfaaGreatDoor
