/-
  Parts of the proof: V2 V3 V13 V15B Own Late V48.
-/
import Derived.Test.YtcfchohkmkilpaaGreatDoorLP0
import Derived.Test.YtcfchohkmkilpaaGreatDoorLP3
import Derived.Test.YtcfchohkmkilpaaGreatDoorSh
import Derived.Test.YtcfchohkmkilpaaGreatDoorLP4
import Derived.Test.YtcfchohkmkilpaaGreatDoorLP2
namespace Go.Proofs.YtcfchohkmkilpaaGreatDoor
set_option maxRecDepth 100000
set_option maxHeartbeats 16000000
section
open Go Go.RowKit Go.Shelf
theorem xT (c:UInt8):(c.toNat:Int).toNat.toUInt8=c:=by simp
theorem mN (s:ByteArray) (k:Nat) (h:k<s.size):s.data.toList.drop k=s[k] :: s.data.toList.drop (k+1):=by
 rw [cH (by simpa using h)];rfl
theorem sD (s:ByteArray) (k:Nat) (h:s.size<=k):s.data.toList.drop k=[]:=bE (by simpa using h)
theorem eQ (s:ByteArray):s.data.toList.length=s.size:=by simp
theorem mB (b:Nat) (x:UInt8) (v:Bool) (w:World) (hc:w.cell? ⟨b,x.toNat,none⟩=some (.bool v)):
 Calls Tryz.prog 203 #[.pointer (some ⟨b,0,none⟩),.int .u8 x.toNat] w fun e w'=>e = .returned (.bool v)/\w'=w:=Tryz.asciiSet_contains b x v w hc
theorem qH {p:UInt8->Bool} {c:UInt8} {r:List UInt8} (h:p c=true):(c :: r).dropWhile p=r.dropWhile p:=by simp [h]
theorem xF {p:UInt8->Bool} {c:UInt8} {r:List UInt8} (h:p c=false):(c :: r).dropWhile p=c :: r:=by simp [h]
theorem uY (s:ByteArray) (b:Nat) (p:UInt8->Bool) (w:World) (hset:∀x:UInt8,w.cell? ⟨b,x.toNat,none⟩=some (.bool (p x))):
 Calls Tryz.prog 179 #[.string s,.pointer (some ⟨b,0,none⟩)] w fun e w'=>(∃t,e = .returned (.string t)/\t.data.toList=s.data.toList.dropWhile p)/\w'=w:=by
 have HS:=aF hset;clear hset;go_enter Tryz.func179,Tryz.ntmps179
 go_wp2_with fail
 go_loop [0] (fun v=>∃t:ByteArray,v = .string t/\t.size<=s.size/\Hid (s.data.toList.dropWhile p=t.data.toList.dropWhile p)) (fun v=>Lib.strSize v)
 case atStart=>exact ⟨s,rfl,aY _,aF rfl⟩
 case round=>
  obtain ⟨t,rfl,hle,hp⟩:=hrel;by_cases h0:0<t.size
  ·have hd:=mN t 0 h0;rw [bW] at hd;have hcx:=HS.out t[0];cases hin:p t[0]
   ·rw [hin] at hcx;have HA:=aF (mB b t[0] false w hcx);have HF:Hid (t.data.toList=s.data.toList.dropWhile p):=aF (by rw [hp.out,hd,xF hin]);clear hd hcx hin hp;go_wp2_with (go_at_call 203;refine HA.out.mono ?_;rintro e w' ⟨rfl,hw⟩;obtain rfl:=hw.symm)
    go_ret;exact ⟨⟨t,rfl,HF.out⟩,rfl⟩
   ·rw [hin] at hcx;have HA:=aF (mB b t[0] true w hcx);have HF:Hid (s.data.toList.dropWhile p=(t.extract 1 t.size).data.toList.dropWhile p):=aF (by rw [hp.out,hd,qH hin,Lib.extract_to_end]);clear hd hcx hin hp;go_wp2_with (go_at_call 203;refine HA.out.mono ?_;rintro e w' ⟨rfl,hw⟩;obtain rfl:=hw.symm)
    go_round
    case rel=>exact ⟨t.extract 1 t.size,rfl,by simp;omega,HF⟩
    case measure=>rw [Lib.strSize_string,Lib.strSize_string];simp;omega
  ·have h00:t.size=0:=by omega
   have hnil:t.data.toList=[]:=bU (by rw [eQ];omega);have HF:Hid (t.data.toList=s.data.toList.dropWhile p):=aF (by rw [hp.out,hnil];rfl);clear hnil hp h0;go_wp2_with fail
   go_ret;exact ⟨⟨t,rfl,HF.out⟩,rfl⟩
structure trimRP (s t:ByteArray) (p:UInt8->Bool):Prop where
 one:t.data.toList.all p=true->t.size=0
 two:t.size=0->s.data.toList.all p=true
 three:s.data.toList.all p=true->t.data.toList.all p=true
theorem uX (s:ByteArray) (b:Nat) (p:UInt8->Bool) (w:World) (hs:s.size<=9223372036854775807) (hset:∀x:UInt8,w.cell? ⟨b,x.toNat,none⟩=some (.bool (p x))):
 Calls Tryz.prog 180 #[.string s,.pointer (some ⟨b,0,none⟩)] w fun e w'=>(∃t,e = .returned (.string t)/\trimRP s t p)/\w'=w:=by
 have HS:=aF hset;clear hset;go_enter Tryz.func180,Tryz.ntmps180
 go_wp2_with fail
 go_loop [0] (fun v=>∃t:ByteArray,v = .string t/\t.size<=s.size/\Hid (s.data.toList.all p=t.data.toList.all p)) (fun v=>Lib.strSize v)
 case atStart=>exact ⟨s,rfl,aY _,aF rfl⟩
 case round=>
  obtain ⟨t,rfl,hle,hp⟩:=hrel;by_cases h0:0<t.size
  ·have hk:t.size - 1<t.size:=by omega
   have hd:t.data.toList=(t.extract 0 (t.size - 1)).data.toList ++ [t[t.size - 1]]:=by
    have h1:=mN t (t.size - 1) hk;rw [show t.size - 1+1=t.size by omega,sD t t.size (aY _)] at h1;rw [<- h1,Lib.extract_data,bW,Nat.sub_zero,List.take_append_drop]
   have hcx:=HS.out t[t.size - 1];have hw1:((t.size:Int) - 1)=((t.size - 1:Nat):Int):=by omega
   cases hin:p t[t.size - 1]
   ·rw [hin] at hcx;have HA:=aF (mB b t[t.size - 1] false w hcx);have HF:Hid (t.data.toList.all p=false):=aF (by rw [hd];simp [hin]);clear hd hcx hin;go_wp2_with (go_at_call 203;refine HA.out.mono ?_;rintro e w' ⟨rfl,hw⟩;obtain rfl:=hw.symm)
    go_ret;refine ⟨⟨t,rfl,fun h=>?_,fun h=>by omega,fun h=>by rw [<- hp.out];exact h⟩,rfl⟩;rw [HF.out] at h;cases h
   ·rw [hin] at hcx;have HA:=aF (mB b t[t.size - 1] true w hcx);have HF:Hid (s.data.toList.all p=(t.extract 0 (t.size - 1)).data.toList.all p):=aF (by rw [hp.out,hd,List.all_append,cB,hin];simp);clear hd hcx hin hp;go_wp2_with (go_at_call 203;refine HA.out.mono ?_;rintro e w' ⟨rfl,hw⟩;obtain rfl:=hw.symm)
    go_round
    case rel=>exact ⟨t.extract 0 (t.size - 1),rfl,by simp;omega,HF⟩
    case measure=>rw [Lib.strSize_string,Lib.strSize_string];simp;omega
  ·have h00:t.size=0:=by omega
   have hnil:t.data.toList=[]:=bU (by rw [eQ];omega);have HF:Hid (s.data.toList.all p=true/\t.data.toList.all p=true):=aF (by rw [hp.out,hnil];exact ⟨rfl,rfl⟩);clear hnil hp h0;go_wp2_with fail
   go_ret;exact ⟨⟨t,rfl,fun _=>h00,fun _=>HF.out.1,fun _=>HF.out.2⟩,rfl⟩
theorem xBQ {p:UInt8->Bool}:∀{l:List UInt8},l.dropWhile p=[]->l.all p=true
 | [],_=>rfl
 | c :: r,h=>by
   cases hc:p c
   ·rw [xF hc] at h;cases h
   ·rw [qH hc] at h;simp only [cB,hc,xBQ h,Bool.and_self]
theorem xBR {p:UInt8->Bool}:∀{l:List UInt8},l.all p=true->l.dropWhile p=[]
 | [],_=>rfl
 | c :: r,h=>by
   simp only [cB,bP] at h;rw [qH h.1,xBR h.2]
def lettersA:ByteArray:=⟨#[95,97,98,99,100,101,102,103,104,105,106,107,108,109,110,111,112,113,114,115,116,117,118,119,120,121,122,65,66,67,68,69,70,71,72,73,74,75,76,77,78,79,80,81,82,83,84,85,86,87,88,89,90,48,49,50,51,52,53,54,55,56,57]⟩
theorem xDP:(Tryz.prog.info? 231).map (fun i=>(i.zero,i.size))=some (some (.agg (Array.replicate 256 (.bool false))),256):=by kernel_rfl
theorem xBV:∀w,(zeroValue 231).run Tryz.prog w = .ok (.agg (Array.replicate 256 (.bool false))) w:=fun w=>by
 have h:=xDP;cases hi:Tryz.prog.info? 231 with
 | none=>rw [hi] at h;cases h
 | some i=>
   rw [hi] at h;simp at h;simp [zeroValue,typeInfo,hi,h.1]
theorem xY {l:List UInt8} (h:l.all (fun c=>decide (c.toNat<128))=true):∀(j:Nat) b,l[j]?=some b->b.toNat<128:=fun j b hj=>by
 simpa using List.all_eq_true.1 h b (List.mem_of_getElem? hj)
theorem yO (s:ByteArray) (w:World) (h0:0<s.size) (hs:s.size<=9223372036854775807):
 Calls Tryz.prog 145 #[.string s,.string lettersA] w fun e w'=>(∃t,e = .returned (.string t)/\(t.size=0↔s.data.toList.all (fun c=>lettersA.data.toList.contains c)=true))/\Below w.heap.size w w':=by
 have hM:=Tryz.strings_makeASCIISet xBV lettersA w (by decide) (xY (by decide));have hn1:((lettersA.size:Int) == 1)=false:=by decide
 have hemp:lettersA.toList.isEmpty=false:=by rw [Lib.toList_data];rfl
 have hc0:2<=lettersA.size:=by decide
 generalize lettersA=cutset at *
 have hemps:s.toList.isEmpty=false:=by
  rw [Lib.toList_data];cases h:s.data.toList with
  | nil=>have:=Lib.size_eq s;rw [h,bO] at this;omega
  | cons _ _=>rfl
 have hsc:(storeCells ⟨w.heap.size+1,0,none⟩ (Lib.setCells cutset.data.toList).toList 0).run Tryz.prog ((w.alloc (.cells (Lib.setCells cutset.data.toList) 231)).alloc (.cells (Array.replicate 256 (.bool false)) 231)) = .ok () ((w.alloc (.cells (Lib.setCells cutset.data.toList) 231)).alloc (.cells (Lib.setCells cutset.data.toList) 231)):=by
  have:=run_storeCells_new (P:=Tryz.prog) (w.alloc (.cells (Lib.setCells cutset.data.toList) 231)) 231 (Array.replicate 256 (.bool false)) (Lib.setCells cutset.data.toList) (by rw [Lib.setCells_size];kernel_rfl) (by rw [Lib.setCells_size,Array.size_replicate]) (Lib.setCells_one _);simpa using this
 have hsz:=Lib.setCells_size cutset.data.toList;have hz:Tryz.zeroCells231=Array.replicate 256 (.bool false):=by kernel_rfl
 obtain ⟨W,hW⟩:∃W,((w.alloc (.cells (Lib.setCells cutset.data.toList) 231)).alloc (.cells (Lib.setCells cutset.data.toList) 231))=W:=⟨_,rfl⟩
 have hcellAt:∀x:UInt8,W.cell? ⟨w.heap.size+1,x.toNat,none⟩=some (.bool (cutset.data.toList.contains x)):=fun x=>by
  rw [<- hW,World.cell?_alloc_at _ _ _ _ (by simp),Lib.setCells_at]
 have hB:Below w.heap.size w W:=by rw [<- hW];exact ((aX _ _).alloc (aY _) _).alloc (by simp) _
 have HR:=aF (uX s (w.heap.size+1) (fun c=>cutset.data.toList.contains c) W hs hcellAt);have HL:=aF (fun t=>uY t (w.heap.size+1) (fun c=>cutset.data.toList.contains c) W hcellAt);have HB:=aF hB;clear hcellAt hB hs;go_enter Tryz.func145,Tryz.ntmps145
 go_wp2_with (first
  | (go_at_call 178;refine hM.mono ?_;rintro e w' ⟨rfl,hw⟩;rw [hw])
  | (go_at_call 180;refine HR.out.mono ?_;rintro e w' ⟨⟨t,rfl,ht⟩,hw⟩;obtain rfl:=hw.symm)
  | (go_at_call 179;refine (HL.out _).mono ?_;rintro e w' ⟨⟨u,rfl,hu⟩,hw⟩;obtain rfl:=hw.symm))
 go_ret;refine ⟨⟨u,rfl,⟨fun h=>?_,fun h=>?_⟩⟩,HB.out⟩
 ·have h1:u.data.toList=[]:=bU (by rw [eQ];exact h);exact ht.two (ht.one (xBQ (hu ▸ h1)))
 ·have h1:=xBR (ht.three h);rw [<- eQ,hu,h1];rfl
def digitsA:ByteArray:=⟨#[48,49,50,51,52,53,54,55,56,57]⟩
theorem zK (c:UInt8):lettersA.data.toList.contains c=(isLet c || isDig c):=by
 have h:∀n,n<256->lettersA.data.toList.contains (UInt8.ofNat n)=(isLet (UInt8.ofNat n) || isDig (UInt8.ofNat n)):=by decide +kernel
 have:=h c.toNat c.toNat_lt;simpa using this
theorem xCT (c:UInt8):digitsA.data.toList.contains c=isDig c:=by
 have h:∀n,n<256->digitsA.data.toList.contains (UInt8.ofNat n)=isDig (UInt8.ofNat n):=by decide +kernel
 have:=h c.toNat c.toNat_lt;simpa using this
theorem xDN (c:UInt8):isLet c=true->isDig c=false:=by
 intro h;simp only [isLet,isDig,Bool.or_eq_true,decide_eq_true_eq,decide_eq_false_iff_not] at *;omega
theorem rX (l:List UInt8):nZ l=(decide (1<=l.length) && decide (l.length<=255) && !(l.head?.any isDig) && l.all (fun c=>isLet c || isDig c)):=by
 cases l with
 | nil=>rfl
 | cons c r=>
   have:=xDN c;simp only [nZ,bK,List.head?_cons,Option.any_some,cB];cases h1:isLet c <;> cases h2:isDig c <;> simp_all [Bool.and_comm]
theorem index_of_mem (c:UInt8):∀l:List UInt8,(0<=Lib.indexByte l c/\l.contains c=true)\/(Lib.indexByte l c = -1/\l.contains c=false)
 | []=>Or.inr ⟨rfl,rfl⟩
 | b :: l=>by
   unfold Lib.indexByte;by_cases hb:b=c
   ·subst hb;exact Or.inl ⟨by simp,by simp⟩
   ·have hb2:(b == c)=false:=by simpa using hb
    have hb3:(c == b)=false:=by simpa using fun h=>hb h.symm
    rw [hb2,List.contains_cons,hb3];rcases index_of_mem c l with ⟨h1,h2⟩ | ⟨h1,h2⟩
    ·refine Or.inl ⟨?_,by simpa using h2⟩;have:(Lib.indexByte l c == -1)=false:=by simp;omega
     rw [this];simp;omega
    ·refine Or.inr ⟨?_,by simpa using h2⟩;rw [h1];rfl
theorem wW {s:ByteArray} (h:s.size=0):isIdent s=false:=by
 have:s.data.toList=[]:=bU (by rw [eQ];exact h);unfold isIdent;rw [this];rfl
theorem fF (s:ByteArray) (w:World):
 Calls Tryz.prog 106 #[.string s] w fun e w'=>e = .returned (.bool (isIdent s))/\Below w.heap.size w w':=by
 by_cases h0:s.size=0
 ·have HI:=aF (wW h0)
  have hemp:s.toList.isEmpty=true:=by
   rw [Lib.toList_data,show s.data.toList=[] from bU (by rw [eQ];exact h0)];rfl
  go_enter Tryz.func106,Tryz.ntmps106
  go_wp2_with fail
  go_ret;exact ⟨by rw [HI.out];rfl,aX _ _⟩
 ·have hd:=mN s 0 (by omega);obtain ⟨c,hc⟩:∃c,s[0]'(by omega)=c:=⟨_,rfl⟩;rw [bW,hc] at hd;have hlen:=eQ s
  have hemp:s.toList.isEmpty=false:=by
   rw [Lib.toList_data,hd];rfl
  have HI:Hid (isIdent s=(decide (1<=s.size) && decide (s.size<=255) && !(isDig c) && s.data.toList.all (fun c=>lettersA.data.toList.contains c))):=aF (by
   unfold isIdent;rw [rX,hlen,hd]
   simp only [List.head?_cons,Option.any_some,zK])
  have hx:=index_of_mem c digitsA.data.toList;rw [xCT] at hx;have hib:=Tryz.strings_IndexByte digitsA c.toNat w;rw [xT] at hib;generalize Lib.indexByte digitsA.data.toList c=j at hx hib;have HIB:=aF hib;obtain ⟨dg,hdg⟩:∃dg,isDig c=dg:=⟨_,rfl⟩;rw [hdg] at hx HI;clear hd hdg hlen hib;by_cases h1:s.size<=255
  ·have HT:=aF (yO s w (by omega) (by omega));rcases hx with ⟨hj,rfl⟩ | ⟨rfl,rfl⟩
   ·go_enter Tryz.func106,Tryz.ntmps106
    go_wp2_with (go_at_call 144;refine HIB.out.mono ?_;rintro e' w' ⟨rfl,hw'⟩;obtain rfl:=hw'.symm)
    go_ret;exact ⟨by rw [HI.out];simp,aX _ _⟩
   ·go_enter Tryz.func106,Tryz.ntmps106
    go_wp2_with (first
     | (go_at_call 144;refine HIB.out.mono ?_;rintro e' w' ⟨rfl,hw'⟩;obtain rfl:=hw'.symm)
     | (go_at_call 145;refine HT.out.mono ?_;rintro e' w1 ⟨⟨t,rfl,ht⟩,hb1⟩))
    go_ret;refine ⟨?_,hb1⟩
    have he:t.toList.isEmpty=s.data.toList.all (fun c=>lettersA.data.toList.contains c):=by
     rw [bQ,<- ht,Lib.toList_data,List.isEmpty_iff,<- List.length_eq_zero_iff,eQ]
    rw [HI.out,<- he];simp [h1];omega
  ·go_enter Tryz.func106,Tryz.ntmps106
   go_wp2_with fail
   go_ret;exact ⟨by rw [HI.out];simp [h1],aX _ _⟩
theorem xDM (c:UInt8):isLet c=((decide (97<=(c.toNat:Int)) && decide ((c.toNat:Int)<=122)) || (decide (65<=(c.toNat:Int)) && decide ((c.toNat:Int)<=90)) || decide ((c.toNat:Int)=95)):=by
 rw [bQ];simp only [isLet,Bool.or_eq_true,bP,decide_eq_true_eq];omega
def okAt (k:Nat) (c:UInt8):Bool:=isLet c || (decide (k≠0) && isDig c)
def okFrom:Nat->List UInt8->Bool
 | _,[]=>true
 | k,c :: r=>okAt k c && okFrom (k+1) r
theorem kC:∀(l:List UInt8) (k:Nat),okFrom (k+1) l=l.all (fun c=>isLet c || isDig c)
 | [],_=>rfl
 | c :: r,k=>by simp [okFrom,okAt,kC r]
theorem uF (l:List UInt8):nZ l=(okFrom 0 l && (decide (1<=l.length) && decide (l.length<=255))):=by
 cases l with
 | nil=>rfl
 | cons c r=>
   simp only [nZ,okFrom,kC,okAt,bK];rw [bQ];simp only [bP,Bool.or_eq_true,decide_eq_true_eq];constructor
   ·rintro ⟨⟨h1,h2⟩,h3⟩;exact ⟨⟨.inl h1,h2⟩,by omega,by omega⟩
   ·rintro ⟨⟨h1,h2⟩,h3⟩;exact ⟨⟨h1.resolve_right (by simp),h2⟩,by omega⟩
theorem gN (s:ByteArray) (w:World) (hs:s.size<=9223372036854775807):
 Calls Tryz.prog 89 #[.string s] w fun e w'=>e = .returned (.bool (isIdent s))/\w'=w:=by
 obtain ⟨R,hR⟩:∃R,okFrom 0 s.data.toList=R:=⟨_,rfl⟩;have HR:Hid (isIdent s=(R && (decide (1<=s.size) && decide (s.size<=255)))):=aF (by unfold isIdent;rw [uF,hR,eQ]);generalize isIdent s=q at HR ⊢;have HR0:=aF hR;clear hR;go_enter Tryz.func89,Tryz.ntmps89
 go_wp2_with fail
 go_loop [3] (fun v=>∃k:Nat,k<=s.size/\v = .int .i64 k/\Hid (R=okFrom k (s.data.toList.drop k))) (fun v=>s.size - (intOf v).toNat)
 case atStart=>exact ⟨0,Nat.zero_le _,rfl,aF HR0.out.symm⟩
 case round=>
  obtain ⟨k,hk,rfl,hr⟩:=hrel;by_cases hlt:k<s.size
  ·have hd:=mN s k hlt;obtain ⟨c,hc⟩:∃c,s[k]=c:=⟨_,rfl⟩;rw [hc] at hd;have hcb:c.toNat<256:=c.toNat_lt;obtain ⟨y,hy⟩:∃y,c.toNat=y:=⟨_,rfl⟩
   have HOK:Hid (okAt k c=((decide (97<=(y:Int)) && decide ((y:Int)<=122)) || (decide (65<=(y:Int)) && decide ((y:Int)<=90)) || decide ((y:Int)=95) || (decide (k≠0) && (decide (48<=(y:Int)) && decide ((y:Int)<=57))))):=aF (by
    rw [<- hy];unfold okAt
    rw [xDM,show isDig c=(decide (48<=(c.toNat:Int)) && decide ((c.toNat:Int)<=57)) by rw [bQ];simp only [isDig,bP,decide_eq_true_eq];omega])
   have HN:Hid (R=(okAt k c && okFrom (k+1) (s.data.toList.drop (k+1)))):=aF (by rw [hr.out,hd];rfl);rw [hy] at hcb;have hcy:s[k].toNat=y:=by rw [hc,hy]
   clear hd hr;cases hz:okAt k c
   ·have HZ:Hid (R=false):=aF (by rw [HN.out,hz];rfl);rw [hz] at HOK;clear hz HN;go_wp2_with fail
    all_goals first
     | (go_ret;exact ⟨by rw [HR.out,HZ.out];rfl,rfl⟩)
     | (exfalso;have:=HOK.out;clear HOK HZ HR HR0;grind)
   ·have HZ:Hid (R=okFrom (k+1) (s.data.toList.drop (k+1))):=aF (by rw [HN.out,hz];rfl);rw [hz] at HOK;clear hz HN;go_wp2_with fail
    all_goals first
     | (go_round
        case rel=>exact ⟨k+1,by omega,by go_num,HZ⟩
        case measure=>simp [intOf];omega)
     | (exfalso;have:=HOK.out;clear HOK HZ HR HR0;grind)
  ·have HQ:Hid (q=(decide (1<=s.size) && decide (s.size<=255))):=aF (by rw [HR.out,hr.out,sD s k (by omega)];rfl);clear hr HR;rcases (show s.size<1\/(1<=s.size/\s.size<=255)\/255<s.size by omega) with h | ⟨h,h'⟩ | h
   ·obtain rfl:q=false:=by rw [HQ.out];simp;omega
    clear HQ;go_wp2_with fail
    go_ret;exact ⟨rfl,rfl⟩
   ·obtain rfl:q=true:=by rw [HQ.out];simp;omega
    clear HQ;go_wp2_with fail
    go_ret;exact ⟨by simp;omega,rfl⟩
   ·obtain rfl:q=false:=by rw [HQ.out];simp;omega
    clear HQ;go_wp2_with fail
    go_ret;exact ⟨by simp;omega,rfl⟩
end
section
open Go Go.RowKit Go.Maps
def seenF (ns:List ByteArray) (l:List UInt8):Bool:=ns.any (fun s=>decide (s.data.toList=l))
theorem xBU {s t:ByteArray} (h:s.data.toList=t.data.toList):s=t:=by
 cases s;cases t
 simpa using h
theorem nH (ns:List ByteArray) (s:ByteArray):seenF ns s.data.toList=memN s ns:=by
 unfold seenF memN;congr 1
 funext x
 rw [decide_eq_decide];exact ⟨xBU,fun h=>by rw [h]⟩
theorem nG (ns:List ByteArray) (s:ByteArray):strF (seenF (s :: ns)) (.string s.data.toList)=true:=by
 simp [strF,seenF]
theorem nF (ns:List ByteArray) (s:ByteArray):∀x,x≠Lit.string s.data.toList->strF (seenF (s :: ns)) x=strF (seenF ns) x:=by
 intro x hx;cases x <;> try rfl
 rename_i l;have:s.data.toList≠l:=fun h=>hx (by rw [h])
 simp [strF,seenF,this]
theorem rC:strF (seenF [])=fun _=>false:=by
 funext x
 cases x <;> rfl
theorem law9:Keyed Tryz.prog 9:=string_keyed Tryz.underlying9
theorem uE {s:ByteArray} (h:isIdent s=true):s.size<=255:=by
 unfold isIdent at h;rw [rX] at h;simp only [bP,decide_eq_true_eq,eQ] at h;omega
theorem key9 {s:ByteArray} (h:isIdent s=true):keyOf Tryz.prog 9 (.string s)=some (.string s.data.toList):=Go.WideMaps.keyOf_string_mk Tryz.underlying9 (by have:=uE h;unfold maxLen;omega)
theorem zeroB:∀w,(zeroValue 4).run Tryz.prog w = .ok (.bool false) w:=Tryz.zeroValue4
theorem wL (l:List ByteArray) (A:Option Addr) (c:Nat) (w:World) (hs:Slc 1 RN w A c l):
 Calls Tryz.prog 108 #[.slice A l.length c] w fun e' w'=>e' = .returned (.int .i64 (namesC l))/\Below w.heap.size w w':=by
 have hle:=hs.le;have hbig:=hs.big;unfold namesC;by_cases h0:65535<l.length
 ·rw [bA h0];clear hs;go_enter Tryz.func108,Tryz.ntmps108
  go_wp2_with fail
  go_ret;exact ⟨rfl,aX _ _⟩
 rw [aZ h0];obtain ⟨R,hR⟩:∃R,namesE [] l=R:=⟨_,rfl⟩;rw [hR];have HR:=aF hR;have HS:=aF hs;clear hR hs;have hmm:= @run_makeMap Tryz.prog;go_enter Tryz.func108,Tryz.ntmps108
 go_wp2_with fail
 go_loopw [12] (fun v wr=>∃(k:Nat) (ns:List ByteArray),k<=l.length/\v = .int .i64 k/\OwnB Tryz.prog 9 4 wr w.heap.size k (strF (seenF ns))/\Hid (Below w.heap.size w wr)/\Hid (R=namesE ns (l.drop k))) (fun v _=>l.length - (intOf v).toNat)
 case atStart=>exact ⟨0,[],by omega,rfl,by rw [rC];exact OwnB.made _ _ _ _,aF ((aX _ _).alloc (aY _) _),aF HR.out.symm⟩
 case round=>
  obtain ⟨k,ns,hk,rfl,hown,hB,hr⟩:=hrel;by_cases hlt:k<l.length
  ·have hd:=cV hlt;obtain ⟨b,o,rfl,hb,hx⟩:=(HS.out.sl.keep RN.keeps hB.out.size hB.out).at_ hlt;obtain ⟨s,hsx⟩:∃s,l[k]=s:=⟨_,rfl⟩;rw [hsx] at hd hx;have x0:wr.cell? ⟨b,o+k,none⟩=some (.string s):=by simpa [RN] using hx
   have HI:=aF (fF s wr);have HN:Hid (R=if isIdent s=false then 12 else if memN s ns=true then 21 else namesE (s :: ns) (l.drop (k+1))):=aF (by rw [hr.out,hd];rfl);have hsz:=hB.out.size;clear hd hx hr hsx;cases hid:isIdent s
   ·rw [hid] at HI HN;clear hid hown;go_wp2_with (go_at_call 106;refine HI.out.mono ?_;rintro e' w1 ⟨rfl,hb1⟩)
    go_ret;exact ⟨by rw [HN.out];rfl,hB.out.trans (hb1.mono hsz)⟩
   ·have hkey:=key9 hid;rw [hid] at HI HN;have HM:=aF (nH ns s);clear hid;cases hm:memN s ns
    ·have HN':Hid (R=namesE (s :: ns) (l.drop (k+1))):=aF (by rw [HN.out,hm];rfl);have HF:Hid (strF (seenF ns) (.string s.data.toList)=false):=aF (by simp only [strF];rw [HM.out,hm]);clear hm HN HM
     go_wp2_with (first
      | (go_at_call 106;refine HI.out.mono ?_;rintro e' w1 ⟨rfl,hb1⟩;have hown1:=hown.below hb1)
      | (at_lookup;refine dD _ rfl _ _ 198 rfl 9 4 law9 Tryz.underlying198 Tryz.underlying4 (zeroB _) _ _ _ rfl hown1 _ _ rfl hkey ?_;rw [HF.out])
      | (at_mapUpdate;refine eK _ rfl _ _ _ 198 rfl 9 4 law9 Tryz.underlying198 Tryz.underlying4 _ _ _ rfl hown1 (by unfold maxLen;omega) _ _ _ rfl rfl hkey trivial _ (nG ns s) (nF ns s) ?_;intro w2 hown2 hg2))
     go_roundw
     case rel=>exact ⟨k+1,s :: ns,by omega,by go_num,hown2,aF ((hB.out.trans (hb1.mono hsz)).trans (eH hg2 (aY _) (bX hsz hb1.size))),HN'⟩
     case measure=>simp [intOf];omega
    ·have HN':Hid (R=21):=aF (by rw [HN.out,hm];rfl);have HF:Hid (strF (seenF ns) (.string s.data.toList)=true):=aF (by simp only [strF];rw [HM.out,hm]);clear hm HN HM
     go_wp2_with (first
      | (go_at_call 106;refine HI.out.mono ?_;rintro e' w1 ⟨rfl,hb1⟩;have hown1:=hown.below hb1)
      | (at_lookup;refine dD _ rfl _ _ 198 rfl 9 4 law9 Tryz.underlying198 Tryz.underlying4 (zeroB _) _ _ _ rfl hown1 _ _ rfl hkey ?_;rw [HF.out]))
     go_ret;exact ⟨by rw [HN'.out];rfl,hB.out.trans (hb1.mono hsz)⟩
  ·have HN:Hid (R=0):=aF (by rw [hr.out,bE (by omega)];rfl);clear hr hown;go_wp2_with fail
   go_ret;exact ⟨by rw [HN.out];rfl,hB.out⟩
def bxW (w:World) (b:Bdy) (h:BH):World:=w.alloc (.cells (bdC b h).toArray 28)
theorem mR (w:World) (b:Bdy) (h:BH):(bxW w b h).heap.size=w.heap.size+1:=by simp [bxW]
theorem kR (w:World) (b:Bdy) (h:BH):Below w.heap.size w (bxW w b h):=(aX _ _).alloc (aY _) _
theorem mQ {w wr:World} {b:Bdy} {h:BH} (hB:Below (w.heap.size+1) (bxW w b h) wr) (i:Nat) (v:Value) (hi:(bdC b h)[i]?=some v):wr.cell? ⟨w.heap.size,i,none⟩=some v:=by
 refine (hB.cell (p:=⟨w.heap.size,i,none⟩) (by simp)).trans ?_;rw [bxW,World.cell?_alloc_at _ _ _ _ (by simp)];simpa using hi
theorem lW {w wr:World} {b:Bdy} {h:BH} (hB:Below (w.heap.size+1) (bxW w b h) wr):Below w.heap.size w wr:=
 (kR w b h).trans (hB.mono (by omega))
theorem oK (w:World) (x y:Value) (t:TypeId):(w.alloc (.cells #[x,y] t)).cell? ⟨w.heap.size,0,none⟩=some x/\(w.alloc (.cells #[x,y] t)).cell? ⟨w.heap.size,1,none⟩=some y:=by
 constructor <;> (rw [World.cell?_alloc_at _ _ _ _ (by simp)];rfl)
theorem keepA {w W:World} {o:Obj} {p:Addr} {v:Value} (hb:Below (w.alloc o).heap.size (w.alloc o) W) (h:w.cell? p=some v):W.cell? p=some v:=
 cO hb (((((aX w.heap.size w).alloc (aY _) o).cell (p:=p) (cD w p h))).trans h)
theorem uC (b:Bdy) (bh:BH) (w:World) (H:BdAt w b bh):
 Calls Tryz.prog 110 #[.agg (bdC b bh).toArray] w fun e' w'=>e' = .returned (.int .i64 (localsC b))/\Below w.heap.size w w':=by
 obtain ⟨A1,c1,A2,c2,A3,c3,A4,c4,A5,c5⟩:=bh;have hle:=H.loc.le;have hbig:=H.loc.big;have HLOC:=aF H.loc;have htl:=H.typ.le;have htb:=H.typ.big;unfold localsC;clear H;unfold bdC;simp only at hle hbig htl htb HLOC ⊢;have HBX:=aF (kR w b ⟨A1,c1,A2,c2,A3,c3,A4,c4,A5,c5⟩);by_cases h0:65535<b.locals.length
 ·rw [bA h0];go_enter Tryz.func110,Tryz.ntmps110
  go_wp2_with fail
  go_ret;exact ⟨rfl,HBX.out⟩
 rw [aZ h0];obtain ⟨R,hR⟩:∃R,localsE b.types.length [] b.locals=R:=⟨_,rfl⟩;rw [hR];have HR:=aF hR;clear hR;obtain ⟨Q,hQ⟩:∃Q,(if R=0 then (if b.args<0\/(b.locals.length:Int)<b.args then 3 else 0) else R)=Q:=⟨_,rfl⟩;rw [hQ];have HQ:=aF hQ;clear hQ;have hmm:= @run_makeMap Tryz.prog;go_enter Tryz.func110,Tryz.ntmps110
 go_wp2_with fail
 go_loopw [14] (fun v wr=>∃(k:Nat) (ns:List ByteArray),k<=b.locals.length/\v = .int .i64 k/\OwnB Tryz.prog 9 4 wr (w.heap.size+1) k (strF (seenF ns))/\Hid (Below (w.heap.size+1) (bxW w b ⟨A1,c1,A2,c2,A3,c3,A4,c4,A5,c5⟩) wr)/\Hid (R=localsE b.types.length ns (b.locals.drop k))) (fun v _=>b.locals.length - (intOf v).toNat)
 case atStart=>exact ⟨0,[],by omega,rfl,by rw [rC];have:=OwnB.made (bxW w b ⟨A1,c1,A2,c2,A3,c3,A4,c4,A5,c5⟩) Tryz.prog 9 4;rw [mR] at this;exact this,aF ((aX _ (bxW w b ⟨A1,c1,A2,c2,A3,c3,A4,c4,A5,c5⟩)).alloc (by rw [mR];omega) _),aF HR.out.symm⟩
 case round=>
  obtain ⟨k,ns,hk,rfl,hown,hB,hr⟩:=hrel;have x3:=mQ hB.out 3 _ rfl;have x4:=mQ hB.out 4 _ rfl;have x5:=mQ hB.out 5 _ rfl;have hsz:=hB.out.size;rw [mR] at hsz;by_cases hlt:k<b.locals.length
  ·have hd:=cV hlt;obtain ⟨bb,o,rfl,hb,hx⟩:=(HLOC.out.sl.keep RLc.keeps (bX (Nat.le_succ _) hsz) (lW hB.out)).at_ hlt;obtain ⟨s,hsx⟩:∃s,b.locals[k]=s:=⟨_,rfl⟩;rw [hsx] at hd hx;obtain ⟨y0,y1⟩:=hx;have hls:=dM hb;have HN:Hid (R=if isIdent s.name=false then 12 else if memN s.name ns=true then 21 else if s.type<0\/(b.types.length:Int)<=s.type then 3 else localsE b.types.length (s.name :: ns) (b.locals.drop (k+1))):=aF (by rw [hr.out,hd];rfl);clear hd hr hsx;cases hid:isIdent s.name
   ·have HF:Hid (Q=12):=aF (by rw [<- HQ.out,HN.out,hid];rfl);have HI:Hid (∀W,Calls Tryz.prog 106 #[.string s.name] W fun e w'=>e = .returned (.bool false)/\Below W.heap.size W w'):=aF (fun W=>by rw [<- hid];exact fF s.name W);clear hid hown HN;go_wp2_with (go_at_call 106;refine (HI.out _).mono ?_;rintro e' w1 ⟨rfl,hb1⟩)
    go_ret;exact ⟨by rw [HF.out];rfl,((lW hB.out).alloc (by omega) _).trans (hb1.mono (by simp;omega))⟩
   ·have hkey:=key9 hid;have HI:Hid (∀W,Calls Tryz.prog 106 #[.string s.name] W fun e w'=>e = .returned (.bool true)/\Below W.heap.size W w'):=aF (fun W=>by rw [<- hid];exact fF s.name W);have HM:=aF (nH ns s.name);rw [hid] at HN;clear hid;cases hm:memN s.name ns
    case true=>
     have HF:Hid (Q=21):=aF (by rw [<- HQ.out,HN.out,hm];rfl);have HS:Hid (strF (seenF ns) (.string s.name.data.toList)=true):=aF (by simp only [strF];rw [HM.out,hm]);clear hm HN HM
     go_wp2_with (first
      | (go_at_call 106;refine (HI.out _).mono ?_;rintro e' w1 ⟨rfl,hb1⟩;have hown1:=(hown.alloc _).below hb1;obtain ⟨z0,z1⟩:=oK wr (.string s.name) (.int .i64 s.type) 67;replace z0:=cO hb1 z0;replace z1:=cO hb1 z1;have z3:=keepA hb1 x3)
      | (at_lookup;refine dD _ rfl _ _ 198 rfl 9 4 law9 Tryz.underlying198 Tryz.underlying4 (zeroB _) _ _ _ rfl hown1 _ _ rfl hkey ?_;rw [HS.out]))
     go_ret;exact ⟨by rw [HF.out];rfl,((lW hB.out).alloc (by omega) _).trans (hb1.mono (by simp;omega))⟩
    case false=>
     have HS:Hid (strF (seenF ns) (.string s.name.data.toList)=false):=aF (by simp only [strF];rw [HM.out,hm]);rw [hm] at HN;have HT:Hid ((s.type<0\/(b.types.length:Int)<=s.type)->Q=3):=aF (fun h=>by rw [<- HQ.out,HN.out];simp only [Bool.true_eq_false,Bool.false_eq_true,if_false];rw [bA h];rfl);have HG:Hid (¬(s.type<0\/(b.types.length:Int)<=s.type)->R=localsE b.types.length (s.name :: ns) (b.locals.drop (k+1))):=aF (fun h=>by rw [HN.out];simp only [Bool.true_eq_false,Bool.false_eq_true,if_false];rw [aZ h]);clear hm HN HM;by_cases hty:s.type<0\/(b.types.length:Int)<=s.type
     ·have HF:=aF (HT.out hty);clear HT HG
      go_wp2_with (first
       | (go_at_call 106;refine (HI.out _).mono ?_;rintro e' w1 ⟨rfl,hb1⟩;have hown1:=(hown.alloc _).below hb1;obtain ⟨z0,z1⟩:=oK wr (.string s.name) (.int .i64 s.type) 67;replace z0:=cO hb1 z0;replace z1:=cO hb1 z1;have z3:=keepA hb1 x3)
       | (at_lookup;refine dD _ rfl _ _ 198 rfl 9 4 law9 Tryz.underlying198 Tryz.underlying4 (zeroB _) _ _ _ rfl hown1 _ _ rfl hkey ?_;rw [HS.out]))
      all_goals first
       | (exfalso;omega)
       | (go_ret
          exact ⟨by rw [HF.out];rfl,((lW hB.out).alloc (by omega) _).trans (hb1.mono (by simp;omega))⟩)
     ·have HF:=aF (HG.out hty);clear HT HG;have e1:¬s.type<0:=(by omega);have e2:¬(b.types.length:Int)<=s.type:=(by omega);clear hty
      go_wp2_with (first
       | (go_at_call 106;refine (HI.out _).mono ?_;rintro e' w1 ⟨rfl,hb1⟩;have hown1:=(hown.alloc _).below hb1;obtain ⟨z0,z1⟩:=oK wr (.string s.name) (.int .i64 s.type) 67;replace z0:=cO hb1 z0;replace z1:=cO hb1 z1;have z3:=keepA hb1 x3)
       | (at_lookup;refine dD _ rfl _ _ 198 rfl 9 4 law9 Tryz.underlying198 Tryz.underlying4 (zeroB _) _ _ _ rfl hown1 _ _ rfl hkey ?_;rw [HS.out])
       | (at_mapUpdate;refine eK _ rfl _ _ _ 198 rfl 9 4 law9 Tryz.underlying198 Tryz.underlying4 _ _ _ rfl hown1 (by unfold maxLen;omega) _ _ _ rfl rfl hkey trivial _ (nG ns s.name) (nF ns s.name) ?_;intro w2 hown2 hg2))
      go_roundw
      case rel=>
       have hsz1:=hb1.size;simp only [bI] at hsz1;exact ⟨k+1,s.name :: ns,by omega,by go_num,hown2,aF (((hB.out.alloc (by omega) _).trans (hb1.mono (by simp;omega))).trans (eH hg2 (by omega) (by omega))),HF⟩
      case measure=>simp [intOf];omega
  ·have HN:Hid (R=0):=aF (by rw [hr.out,bE (by omega)];rfl);have HF:Hid (Q=if b.args<0\/(b.locals.length:Int)<b.args then 3 else 0):=aF (by rw [<- HQ.out,HN.out,bA rfl]);clear hr hown;by_cases ha:b.args<0\/(b.locals.length:Int)<b.args
   ·rw [bA ha] at HF;go_wp2_with fail
    all_goals first
     | (exfalso;omega)
     | (go_ret;exact ⟨by rw [HF.out];rfl,lW hB.out⟩)
   ·rw [aZ ha] at HF;have e1:¬b.args<0:=(by omega);have e2:¬(b.locals.length:Int)<b.args:=(by omega);clear ha;go_wp2_with fail
    go_ret;exact ⟨by rw [HF.out];rfl,lW hB.out⟩
end
section
open Go Go.RowKit
def BxC (w:World) (n:Nat) (b:Bdy) (bh:BH):Prop:=∀i v,(bdC b bh)[i]?=some v->w.cell? ⟨n,i,none⟩=some v
theorem BxC.new (w:World) (b:Bdy) (bh:BH):BxC (bxW w b bh) w.heap.size b bh:=fun i v hi=>mQ (aX _ _) i v hi
theorem BxC.keep {w w':World} {n:Nat} {b:Bdy} {bh:BH} (h:BxC w n b bh) (hb:Below w.heap.size w w'):BxC w' n b bh:=fun i v hi=>cO hb (h i v hi)
theorem xAR (W:World) (x y z u:Int) (T:TypeId) (k:Nat) (hk:k=W.heap.size):Slc 1 RInt (W.alloc (.cells #[.int .i64 x,.int .i64 y,.int .i64 z,.int .i64 u] T)) (some ⟨k,0,none⟩) 4 [x,y,z,u]:=by
 subst hk;refine ⟨fun _=>⟨_,_,rfl,by simp,fun i q hi=>?_⟩,by simp,by omega⟩;show (W.alloc _).cell? ⟨W.heap.size,0+i * 1,none⟩=_;rw [World.cell?_alloc_at _ _ _ _ (by simp),Nat.zero_add,Nat.mul_one];match i,hi with
 | 0,hi=>simp at hi;subst hi;rfl
 | 1,hi=>simp at hi;subst hi;rfl
 | 2,hi=>simp at hi;subst hi;rfl
 | 3,hi=>simp at hi;subst hi;rfl
 | i+4,hi=>simp at hi
theorem xAW (b:Bdy) (bh:BH) (w:World) (H:BdAt w b bh):
 Calls Tryz.prog 73 #[.agg (bdC b bh).toArray] w fun e' w'=>e' = .returned (.int .i64 (declC b))/\Below w.heap.size w w':=by
 have HX:=aF (BxC.new w b bh);have HH:=aF H;have HB0:=aF (kR w b bh);have r1:=H.reg.le;have r2:=H.reg.big;have b1:=H.blk.le;have b2:=H.blk.big;have HID:=aF (fF b.name (bxW w b bh));unfold declC;obtain ⟨Q,hQ⟩:∃Q,(if isIdent b.name=false then 12 else if firstE [namesC b.regions,pairsC b.regions.length b.outl,typesC b.regions.length b.types,localsC b]=0 then (if b.blocks.length=0\/65535<b.blocks.length then 15 else 0) else firstE [namesC b.regions,pairsC b.regions.length b.outl,typesC b.regions.length b.types,localsC b])=Q:=⟨_,rfl⟩;rw [hQ];have HQ:=aF hQ;clear hQ H;cases hid:isIdent b.name
 ·rw [hid] at HID HQ;have HF:Hid (Q=12):=aF HQ.out.symm;clear hid HQ;unfold bdC;go_enter Tryz.func73,Tryz.ntmps73
  go_wp2_with (go_at_call 106;refine HID.out.mono ?_;rintro e' w1 ⟨rfl,hb1⟩)
  go_ret;exact ⟨by rw [HF.out];rfl,HB0.out.trans (hb1.mono HB0.out.size)⟩
 rw [hid] at HID HQ;have HQ':Hid (Q=if firstE [namesC b.regions,pairsC b.regions.length b.outl,typesC b.regions.length b.types,localsC b]=0 then (if b.blocks.length=0\/65535<b.blocks.length then 15 else 0) else firstE [namesC b.regions,pairsC b.regions.length b.outl,typesC b.regions.length b.types,localsC b]):=aF HQ.out.symm;clear hid HQ;have HN:=aF (fun W (hb:Below w.heap.size w W)=>wL b.regions bh.A1 bh.c1 W (HH.out.keep hb).reg);have HP:=aF (fun W (hb:Below w.heap.size w W)=>lI b.outl b.regions.length bh.A2 bh.c2 W (HH.out.keep hb).out);have HT:=aF (fun W (hb:Below w.heap.size w W)=>sV b.types b.regions.length bh.A3 bh.c3 W (HH.out.keep hb).typ);have HL:=aF (fun W (hb:Below w.heap.size w W)=>uC b bh W (HH.out.keep hb));generalize namesC b.regions=E1 at HN HQ';generalize pairsC b.regions.length b.outl=E2 at HP HQ';generalize typesC b.regions.length b.types=E3 at HT HQ';generalize localsC b=E4 at HL HQ';have HFI:=aF (fP [E1,E2,E3,E4]);generalize firstE [E1,E2,E3,E4]=E at HFI HQ';unfold bdC at HL ⊢;go_enter Tryz.func73,Tryz.ntmps73
 go_wp2_with (go_at_call 106;refine HID.out.mono ?_;rintro e' w1 ⟨rfl,hb1⟩;have x1:=HX.out.keep hb1 1 _ rfl)
 have hX1:BxC w1.drew w.heap.size b bh:=(HX.out.keep hb1).keep ((aX _ _).drew);have hB1:Below w.heap.size w w1.drew:=(HB0.out.trans (hb1.mono HB0.out.size)).drew;have HB1:=aF hB1;have hS:=hX1;clear hX1 hB1 hb1;refine cT (S:=fun X=>BxC X w.heap.size b bh) [0,1,3,4,5,7,8,9,11,2,6,10,12,13,14,15] (by kernel_rfl) ?_;(iterate 9 (refine cR (v:=?_) ?_ hS ?_;rotate_left;(next=>(rintro X hX;obtain ⟨s0,s1,s2,s3,s4,s5,s6⟩:=aS hX;(try simp only [aI]);go_simp;rfl));simp only [aM]));(refine cY (fun K1 hK1=>?_);simp only [aM];rw [bA (by rfl)];go_simp);refine (HN.out _ HB1.out).mono ?_;rintro e' w2 ⟨rfl,hb⟩;replace hS:=hS.keep hb;have HB2:=aF (HB1.out.trans (hb.mono HB1.out.size));clear hb HB1;refine hK1.out _ _ (fun _=>hS) ?_;clear HN;(refine cY (fun K1 hK1=>?_);simp only [aM];rw [bA (by rfl)];go_simp);refine (HP.out _ HB2.out).mono ?_;rintro e' w3 ⟨rfl,hb⟩;replace hS:=hS.keep hb;have HB3:=aF (HB2.out.trans (hb.mono HB2.out.size));clear hb HB2;refine hK1.out _ _ (fun _=>hS) ?_;clear HP;(refine cY (fun K1 hK1=>?_);simp only [aM];rw [bA (by rfl)];go_simp);refine (HT.out _ HB3.out).mono ?_;rintro e' w4 ⟨rfl,hb⟩;replace hS:=hS.keep hb;have HB4:=aF (HB3.out.trans (hb.mono HB3.out.size));clear hb HB3;refine hK1.out _ _ (fun _=>hS) ?_;clear HT;(refine cY (fun K1 hK1=>?_);simp only [aM];rw [bA (by rfl)];go_simp);refine (HL.out _ HB4.out).mono ?_;rintro e' w5 ⟨rfl,hb⟩;replace hS:=hS.keep hb;have HB5:=aF (HB4.out.trans (hb.mono HB4.out.size));clear hb HB4;refine hK1.out _ _ (fun _=>hS) ?_;clear HL;(refine cY (fun K1 hK1=>?_);simp only [aM];rw [bA (by rfl)];go_simp);have HNW:=aF (xAR w5 E1 E2 E3 E4 37 _ rfl);have hbn:Below w5.heap.size w5 (w5.alloc (.cells #[.int .i64 E1,.int .i64 E2,.int .i64 E3,.int .i64 E4] 37)):=(aX _ _).alloc (aY _) _;replace hS:=hS.keep hbn;have HB6:=aF (HB5.out.trans (hbn.mono HB5.out.size));clear hbn;refine hK1.out _ _ (fun _=>hS) ?_;(refine cY (fun K1 hK1=>?_);simp only [aM];rw [bA (by rfl)];go_simp);refine (HFI.out _ 4 _ HNW.out).mono ?_;rintro e' w6 ⟨rfl,hw⟩;obtain rfl:=hw.symm;refine hK1.out _ _ (fun _=>hS) ?_;((refine cR (v:=?_) ?_ hS ?_;rotate_left;(next=>(rintro X hX;have s0:=hX 0 _ rfl;(try simp only [aI]);go_simp;rfl));simp only [aM]))
 refine cZ ?_;have x6:=hS 6 _ rfl;clear hS HH HX HB0 HNW;by_cases he:E=0
 ·have HF:Hid (Q=if b.blocks.length=0\/65535<b.blocks.length then 15 else 0):=aF (by rw [HQ'.out,bA he]);subst he;clear HQ';obtain ⟨m,hm⟩:∃m,b.blocks.length=m:=⟨_,rfl⟩;rw [hm] at HF x6 b1;rw [hm];clear hm;by_cases hbl:m=0\/65535<m
  ·rw [bA hbl] at HF;rcases hbl with rfl | hbl
   ·go_wp2_with fail
    go_ret;exact ⟨by rw [HF.out];rfl,HB6.out⟩
   ·have e1:((m:Int) == 0)=false:=by simp;omega
    go_wp2_with fail
    go_ret;exact ⟨by rw [HF.out];rfl,HB6.out⟩
  ·rw [aZ hbl] at HF;have e1:((m:Int) == 0)=false:=by simp;omega
   have e2:¬(65535:Int)<m:=by omega
   clear hbl;go_wp2_with fail
   go_ret;exact ⟨by rw [HF.out];rfl,HB6.out⟩
 ·have HF:Hid (Q=E):=aF (by rw [HQ'.out,aZ he]);have e1:(E != 0)=true:=by simp [he]
  clear HQ';go_wp2_with fail
  go_ret;exact ⟨by rw [HF.out];rfl,HB6.out⟩
end
section
open Go Go.RowKit Go.Maps
theorem GI.but {w w':World} {base rel c lo:Nat} {M:Bool->Nat} {n:Int} {L:Bool->Int->List Int} {F:Bool->Int->Value} (h:GI w base rel M c n L F) (hr:lo<=rel) (hm:∀s,lo<=M s) (hk:∀k,lo<=k->k<w.heap.size->w'.heap[k]?=w.heap[k]?) (hs:w.heap.size<=w'.heap.size):GI w' base rel M c n L F:=
 ⟨(hk _ hr (Array.getElem?_eq_some_iff.1 h.head).1).trans h.head,fun s=>(h.maps s).block (hk _ (hm s) (h.maps s).lt),fun s x=>dI (h.rows s x) (fun k h1 h2 _=>hk k (by have:=h.lrel;omega) h2),h.apart,h.lrel,h.lmap,h.ne1,h.ne2,bX h.low hs⟩
def newP2 (n:Int) (pairs:List (Int × Int)) (w:World) (e':Ending) (w':World):Prop:=∃r0 M c F base,e' = .returned (.tuple #[.pointer (some ⟨r0,0,none⟩),.int .i64 0])/\GI w' base r0 M c n (relL pairs) F/\w.heap.size<=r0/\(∀s,w.heap.size<=M s)/\Below w.heap.size w w'
theorem xDG (l:List (Int × Int)) (n:Int) (A:Option Addr) (c:Nat) (w:World) (hs:Slc 2 RPr w A c l) (hok:pairsC n l=0) (hn:n<=4611686018427387904):
 Calls Tryz.prog 45 #[.slice A l.length c,.int .i64 n] w (newP2 n l w):=by
 obtain ⟨hlen,hall⟩:=lJ hok;have hle:=hs.le;have hbig:=hs.big;have HCH:=aF (lI l n A c w hs);rw [hok] at HCH;have HS:=aF hs;have HALL:=aF hall;clear hs hall hok;obtain ⟨i0,hi,hz0,hz1,hz2⟩:=info_parts dU;have hmm:= @run_makeMap Tryz.prog;go_enter Tryz.func45,Tryz.ntmps45
 go_wp2_with (go_at_call 77;refine HCH.out.mono ?_;rintro e' w1 ⟨rfl,hb1⟩;have HB1:=aF hb1;clear hb1)
 have HG0:Hid (GI (((w1.alloc (.map #[] 0)).alloc (.map #[] 0)).alloc (.cells #[.int .i64 n,.map (some w1.heap.size),.map (some (w1.heap.size+1))] 125)) (w1.heap.size+3) (w1.heap.size+2) (mapsAt w1.heap.size) 0 n (relL []) (fun _ _=>nilS)):=aF (by
  have b1:Below (w1.alloc (.map #[] 0)).heap.size (w1.alloc (.map #[] 0)) ((w1.alloc (.map #[] 0)).alloc (.map #[] 0)):=(aX _ _).alloc (aY _) _;have b2:Below ((w1.alloc (.map #[] 0)).alloc (.map #[] 0)).heap.size ((w1.alloc (.map #[] 0)).alloc (.map #[] 0)) (((w1.alloc (.map #[] 0)).alloc (.map #[] 0)).alloc (.cells #[.int .i64 n,.map (some w1.heap.size),.map (some (w1.heap.size+1))] 125)):=(aX _ _).alloc (aY _) _;have hnil:mapF (fun _=>nilS)=fun _=>nilS:=by funext x;cases x <;> (try rfl);rename_i q _;cases q <;> rfl
  refine ⟨?_,?_,fun s x=>?_,fun s x s' x' g h=>(by cases h),(by omega),fun s=>(by cases s <;> simp [mapsAt]),fun s=>(by cases s <;> simp [mapsAt]),(by simp [mapsAt]),(by simp)⟩
  ·exact eS _ _ _ (by simp)
  ·intro s;rw [hnil];cases s
   ·exact (OwnV.made w1 _ _ _).block ((b2.block _ (by simp [];omega)).trans (b1.block _ (by simp [])))
   ·have:=OwnV.made (w1.alloc (.map #[] 0)) Tryz.prog 3 nilS;simp only [bI] at this;exact this.block (b2.block _ (by simp []))
  ·have:relL [] s x=[]:=by cases s <;> rfl
   rw [this]
   exact World.ownsRow_nil _ _ _ _)
 go_loopw [23] (fun v wr=>∃(k:Nat) (F:Bool->Int->Value),k<=l.length/\v = .int .i64 k/\Hid (GI wr (w1.heap.size+3) (w1.heap.size+2) (mapsAt w1.heap.size) (2 * k) n (relL (l.take k)) F)/\Hid (Below w1.heap.size w1 wr)) (fun v _=>l.length - (intOf v).toNat)
 case atStart=>exact ⟨0,_,by omega,rfl,HG0,aF ((((aX _ _).alloc (aY _) _).alloc (by simp) _).alloc (by simp;omega) _)⟩
 case round=>
  clear HG0;obtain ⟨k,F,hk,rfl,HG,hB⟩:=hrel;by_cases hlt:k<l.length
  ·obtain ⟨b,o,rfl,hb,hx⟩:=(HS.out.keep RPr.keeps (HB1.out.trans (hB.out.mono HB1.out.size))).sl.at_ hlt;have HTK:Hid (relL (l.take (k+1))=updL (updL (relL (l.take k)) false l[k].1 (relL (l.take k) false l[k].1 ++ [l[k].2])) true l[k].2 (relL (l.take k) true l[k].2 ++ [l[k].1])):=aF (by rw [bF hlt,vT]);have hpp:=HALL.out l[k] (bM hlt);have HL1:=aF (mE (l.take k) false l[k].1);have HL2:=aF (mE (l.take k) true l[k].2);rw [cM] at HL1 HL2;obtain ⟨p,hp⟩:∃p,l[k]=p:=⟨_,rfl⟩;rw [hp] at hx HTK hpp HL1 HL2;obtain ⟨p1,p2⟩:=p;obtain ⟨x0,x1⟩:=hx;simp only at x0 x1 hpp HTK HL1 HL2;clear hp;generalize relL (l.take k)=L at HG HTK HL1 HL2;have key1:=key3 (a:=p1) (by omega) (by omega);have key2:=key3 (a:=p2) (by omega) (by omega);obtain ⟨W,hW⟩:∃W,wr.alloc (.cells #[.int .i64 p1,.int .i64 p2] 43)=W:=⟨_,rfl⟩;have hbw:Below wr.heap.size wr W:=by rw [<- hW];exact (aX _ _).alloc (aY _) _
   have hWs:W.heap.size=wr.heap.size+1:=by rw [<- hW];simp
   have hP1:W.heap[wr.heap.size]?=some (.cells #[.int .i64 p1,.int .i64 p2] 43):=by rw [<- hW];exact Array.getElem?_push_size
   have HGW:=aF (HG.out.keep hbw);have HWS:=aF hWs;have HROW:=aF (fun s x k (hk:(F s x).ownBlock=some k)=>((HG.out.rows s x).lt k hk).2);have hB1:Below w1.heap.size w1 W:=hB.out.trans (hbw.mono hB.out.size);have hlo:=HG.out.low;clear HG hbw;go_wp2_with fail
   try rw [hW]
   have hrow1:∀k,(F false p1).ownBlock=some k->k<wr.heap.size:=HROW.out false p1;obtain ⟨r0,r1,r2⟩:=jL HGW.out.head;obtain ⟨p0,p1'⟩:=uT hP1;have hmap:=HGW.out.maps false;have hlook:∀X:World,X.heap[mapsAt w1.heap.size false]?=W.heap[mapsAt w1.heap.size false]?->(Instr.lookup 123 (.map (some (mapsAt w1.heap.size false))) (.int .i64 p1) false).run Tryz.prog X = .ok (F false p1) X:=fun X q=>(hmap.block q).look law3 Tryz.underlying123 (uN X) key1
   have hS:W.drew.heap[w1.heap.size+2]?=W.heap[w1.heap.size+2]?/\W.drew.heap[mapsAt w1.heap.size false]?=W.heap[mapsAt w1.heap.size false]?/\W.drew.heap[wr.heap.size]?=W.heap[wr.heap.size]?:=⟨rfl,rfl,rfl⟩;refine eI (S:=fun X=>X.heap[w1.heap.size+2]?=W.heap[w1.heap.size+2]?/\X.heap[mapsAt w1.heap.size false]?=W.heap[mapsAt w1.heap.size false]?/\X.heap[wr.heap.size]?=W.heap[wr.heap.size]?) 17 [0,1,2,3,4,5,6,7,8,9,10,11,12,13,14,15,16,17] (by kernel_rfl) ?_;(iterate 15 (refine cR (v:=?_) ?_ hS ?_;rotate_left;(next=>(rintro X ⟨q1,q2,q3⟩;have s1:=(dT q1 1).trans r1;have s2:=(dT q1 2).trans r2;have s3:=(dT q3 0).trans p0;have s4:=(dT q3 1).trans p1';have e0:=hlook X q2;(try simp only [aI]);go_simp;rfl));simp only [aM]));(refine cY (fun K1 hK1=>?_);simp only [aM];rw [bA (by rfl)];go_simp);obtain ⟨W1,hW1⟩:∃X,(W.alloc (.cells #[.int .i64 p2] 3)).drew=X:=⟨_,rfl⟩;have hbW1:Below W.heap.size W W1:=by rw [<- hW1];exact ((aX _ _).alloc (aY _) _).drew
   have hnews:∀j u,[Value.int .i64 p2][j]?=some u->W1.cell? ((⟨W.heap.size,0,none⟩:Addr).add j)=some u:=by rw [<- hW1];exact fun j u hj=>dZ W _ _ _ rfl j u hj
   have hlz1:wr.heap.size<W.heap.size:=by omega
   have hm1:mapsAt w1.heap.size false<wr.heap.size:=by simp [mapsAt];omega
   try rw [hW1]
   refine hK1.out _ _ (fun _=>⟨hbW1.block _ (by omega),hbW1.block _ (by omega),hbW1.block _ hlz1⟩) ?_;(refine cY (fun K1 hK1=>?_);simp only [aM];rw [bA (by rfl)]);refine fM (.tmp 39) (.tmp 42) 34 rfl (w1.heap.size+3) 3 i0 (.int .i64 0) 1 8 Tryz.underlying34 hi hz0 hz1 hz2 rfl (by decide) (F false p1) _ _ rfl ((HGW.out.keep hbW1).rows false p1) ⟨W.heap.size,0,none⟩ 1 1 [.int .i64 p2] (by rw [HWS.out];rfl) rfl hnews (ints_oneCell .i64 [p2]) (by have:=HL1.out;unfold maxLen;omega) (by have:=HL1.out;omega) (by have:=hbW1.size;omega) ?_;intro v1 W2 hown1 hgrow1 hloc1;have hk1:∀k,k<W.heap.size->some k≠(F false p1).ownBlock->W2.heap[k]?=W.heap[k]?:=fun k hk hr=>(hgrow1.block k (bN hk hbW1.size) hr).trans (hbW1.block k hk)
   have hlow1:∀k,k<w1.heap.size+3->some k≠(F false p1).ownBlock:=fun k hk e=>by have:=((HGW.out.rows false p1).lt k e.symm).1;omega
   have hpb1:W2.heap[wr.heap.size]?=W.heap[wr.heap.size]?:=hk1 _ hlz1 (fun e=>by have:=hrow1 _ e.symm;omega);have hmb1:W2.heap[mapsAt w1.heap.size false]?=W.heap[mapsAt w1.heap.size false]?:=hk1 _ (by omega) (hlow1 _ (by simp [mapsAt]));refine hK1.out _ _ (fun _=>⟨hk1 _ (by omega) (hlow1 _ (by omega)),hmb1,hpb1⟩) ?_;(refine cY (fun K1 hK1=>?_);simp only [aM];rw [bA (by rfl)]);obtain ⟨W2',hrun1,hmp1,hg1⟩:=(hmap.block hmb1).store law3 Tryz.underlying123 (by unfold maxLen;omega) key1 trivial v1 (f':=mapF (updF F false p1 v1 false)) (by simp [mapF,updF]) (rS (fun y hy=>by simp [updF,hy]));refine mT (.tmp 30) (.tmp 32) (.tmp 43) 123 rfl rfl rfl rfl hrun1 ?_;refine hK1.out _ _ (fun h=>absurd h (by decide)) ?_;refine cZ ?_;have HG2:=aF ((HGW.out.keep hbW1).step false p1 p2 v1 hown1 hgrow1 hloc1 hmp1 hg1);have hP2:W2'.heap[wr.heap.size]?=some (.cells #[.int .i64 p1,.int .i64 p2] 43):=((hg1.block _ (bN hlz1 (bX hbW1.size hgrow1.size)) (by simp;omega)).trans hpb1).trans hP1
   have hB2:Below w1.heap.size w1 W2':=by
    have ha:Below w1.heap.size w1 W1:=hB1.trans (hbW1.mono hB1.size);have hc:=ha.grown hgrow1 ha.size (fun k hk=>by have:=((HGW.out.rows false p1).lt k hk).1;omega);exact hc.grown hg1 hc.size (fun k hk=>by injection hk with hk;subst hk;simp [mapsAt])
   have hlt2:wr.heap.size<W2'.heap.size:=bN hlz1 (bX hbW1.size (bX hgrow1.size hg1.size));clear hS hlook hmap r0 r1 r2 p0 p1' hnews hown1 hgrow1 hloc1 hmp1 hg1 hrun1 hk1 hlow1 hpb1 hmb1 hbW1 hK1;go_wp2_with fail
   have HL2':Hid ((updL L false p1 (L false p1 ++ [p2]) true p2).length<=min k l.length):=aF (by simp only [updL,Bool.true_eq_false,false_and,if_false];exact HL2.out);have hrow2:∀k,((updF F false p1 v1) true p2).ownBlock=some k->k<wr.heap.size:=HROW.out true p2;obtain ⟨r0,r1,r2⟩:=jL HG2.out.head;obtain ⟨p0,p1'⟩:=uT hP2;have hmap:=HG2.out.maps true;have hlook:∀X:World,X.heap[mapsAt w1.heap.size true]?=W2'.heap[mapsAt w1.heap.size true]?->(Instr.lookup 123 (.map (some (mapsAt w1.heap.size true))) (.int .i64 p2) false).run Tryz.prog X = .ok ((updF F false p1 v1) true p2) X:=fun X q=>(hmap.block q).look law3 Tryz.underlying123 (uN X) key2
   have hS:W2'.drew.heap[w1.heap.size+2]?=W2'.heap[w1.heap.size+2]?/\W2'.drew.heap[mapsAt w1.heap.size true]?=W2'.heap[mapsAt w1.heap.size true]?/\W2'.drew.heap[wr.heap.size]?=W2'.heap[wr.heap.size]?:=⟨rfl,rfl,rfl⟩;refine eI (S:=fun X=>X.heap[w1.heap.size+2]?=W2'.heap[w1.heap.size+2]?/\X.heap[mapsAt w1.heap.size true]?=W2'.heap[mapsAt w1.heap.size true]?/\X.heap[wr.heap.size]?=W2'.heap[wr.heap.size]?) 17 [0,1,2,3,4,5,6,7,8,9,10,11,12,13,14,15,16,17] (by kernel_rfl) ?_;(iterate 15 (refine cR (v:=?_) ?_ hS ?_;rotate_left;(next=>(rintro X ⟨q1,q2,q3⟩;have s1:=(dT q1 1).trans r1;have s2:=(dT q1 2).trans r2;have s3:=(dT q3 0).trans p0;have s4:=(dT q3 1).trans p1';have e0:=hlook X q2;(try simp only [aI]);go_simp;rfl));simp only [aM]));(refine cY (fun K1 hK1=>?_);simp only [aM];rw [bA (by rfl)];go_simp);obtain ⟨W3,hW3⟩:∃X,(W2'.alloc (.cells #[.int .i64 p1] 3)).drew=X:=⟨_,rfl⟩;have hbW3:Below W2'.heap.size W2' W3:=by rw [<- hW3];exact ((aX _ _).alloc (aY _) _).drew
   have hnews:∀j u,[Value.int .i64 p1][j]?=some u->W3.cell? ((⟨W2'.heap.size,0,none⟩:Addr).add j)=some u:=by rw [<- hW3];exact fun j u hj=>dZ W2' _ _ _ rfl j u hj
   have hlz2:wr.heap.size<W2'.heap.size:=by exact hlt2
   have hm2:mapsAt w1.heap.size true<wr.heap.size:=by simp [mapsAt];omega
   try rw [hW3]
   refine hK1.out _ _ (fun _=>⟨hbW3.block _ (by omega),hbW3.block _ (by omega),hbW3.block _ hlz2⟩) ?_;(refine cY (fun K1 hK1=>?_);simp only [aM];rw [bA (by rfl)]);refine fM (.tmp 56) (.tmp 59) 34 rfl (w1.heap.size+3) 3 i0 (.int .i64 0) 1 8 Tryz.underlying34 hi hz0 hz1 hz2 rfl (by decide) ((updF F false p1 v1) true p2) _ _ rfl ((HG2.out.keep hbW3).rows true p2) ⟨W2'.heap.size,0,none⟩ 1 1 [.int .i64 p1] rfl rfl hnews (ints_oneCell .i64 [p1]) (by have:=HL2'.out;unfold maxLen;omega) (by have:=HL2'.out;omega) (by have:=hbW3.size;omega) ?_;intro v2 W4 hown2 hgrow2 hloc2;have hk2:∀k,k<W2'.heap.size->some k≠((updF F false p1 v1) true p2).ownBlock->W4.heap[k]?=W2'.heap[k]?:=fun k hk hr=>(hgrow2.block k (bN hk hbW3.size) hr).trans (hbW3.block k hk)
   have hlow2:∀k,k<w1.heap.size+3->some k≠((updF F false p1 v1) true p2).ownBlock:=fun k hk e=>by have:=((HG2.out.rows true p2).lt k e.symm).1;omega
   have hpb2:W4.heap[wr.heap.size]?=W2'.heap[wr.heap.size]?:=hk2 _ hlz2 (fun e=>by have:=hrow2 _ e.symm;omega);have hmb2:W4.heap[mapsAt w1.heap.size true]?=W2'.heap[mapsAt w1.heap.size true]?:=hk2 _ (by omega) (hlow2 _ (by simp [mapsAt]));refine hK1.out _ _ (fun _=>⟨hk2 _ (by omega) (hlow2 _ (by omega)),hmb2,hpb2⟩) ?_;(refine cY (fun K1 hK1=>?_);simp only [aM];rw [bA (by rfl)]);obtain ⟨W4',hrun2,hmp2,hg2⟩:=(hmap.block hmb2).store law3 Tryz.underlying123 (by unfold maxLen;omega) key2 trivial v2 (f':=mapF (updF (updF F false p1 v1) true p2 v2 true)) (by simp [mapF,updF]) (rS (fun y hy=>by simp [updF,hy]));refine mT (.tmp 47) (.tmp 49) (.tmp 60) 123 rfl rfl rfl rfl hrun2 ?_;refine hK1.out _ _ (fun h=>absurd h (by decide)) ?_;refine cZ ?_;have HG3:=aF ((HG2.out.keep hbW3).step true p2 p1 v2 hown2 hgrow2 hloc2 hmp2 hg2);have hP3:W4'.heap[wr.heap.size]?=some (.cells #[.int .i64 p1,.int .i64 p2] 43):=((hg2.block _ (bN hlz2 (bX hbW3.size hgrow2.size)) (by simp;omega)).trans hpb2).trans hP2
   have hB3:Below w1.heap.size w1 W4':=by
    have ha:Below w1.heap.size w1 W3:=hB2.trans (hbW3.mono hB2.size);have hc:=ha.grown hgrow2 ha.size (fun k hk=>by have:=((HG2.out.rows true p2).lt k hk).1;omega);exact hc.grown hg2 hc.size (fun k hk=>by injection hk with hk;subst hk;simp [mapsAt])
   have hlt2:wr.heap.size<W4'.heap.size:=bN hlz2 (bX hbW3.size (bX hgrow2.size hg2.size));clear hS hlook hmap r0 r1 r2 p0 p1' hnews hown2 hgrow2 hloc2 hmp2 hg2 hrun2 hk2 hlow2 hpb2 hmb2 hbW3 hK1;go_wp2_with fail
   have hLL:updL L false p1 (L false p1 ++ [p2]) true p2=L true p2:=by simp [updL]
   have hG3:=HG3.out;rw [hLL,<- HTK.out] at hG3;exact ⟨⟨k+1,_,by omega,by go_num,aF hG3,aF hB3⟩,by simp [intOf];omega⟩
  ·have hke:l.take k=l:=List.take_of_length_le (by omega);have HR:=HG;rw [hke] at HR;clear HG;go_wp2_with fail
   refine bodyPost_ret (v:= .tuple #[.pointer (some ⟨w1.heap.size+2,0,none⟩),.int .i64 0]) (by simp [results,Tryz.results45,go_sem] <;> rfl) rfl ⟨_,_,_,_,_,rfl,HR.out,by have:=HB1.out.size;omega,fun s=>by have:=HB1.out.size;cases s <;> simp [mapsAt] <;> omega,HB1.out.trans (hB.out.mono HB1.out.size)⟩
end
section
open Go Go.RowKit
theorem fD {α : Type} {enc : α -> Value} {R:Rd α} (hR:∀(w:World) (B b o:Nat) (x : α),w.cell? ⟨b,o,none⟩=some (enc x)->R w B b o x) {w:World} {base n:Nat} {e:TypeId} {v:Value} {xs:List α}
 (h:w.ownsRow base e 1 v n (xs.map enc)) (hn:xs.length=n):∃A c,v = .slice A n c/\Slc 1 R w A c xs/\(∀a,A=some a->base<=a.block/\a.block<w.heap.size):=by
 subst hn;have h0:=h;rcases h.2 with ⟨rfl,hz⟩ | ⟨g,cap,cur,rfl,hg,hh,hnc,hm,_,_⟩
 ·have:xs=[]:=List.length_eq_zero_iff.1 (by omega);subst this;exact ⟨none,0,rfl,⟨Sl.nil,by simp,by omega⟩,fun a h=>by cases h⟩
 ·have hgl:=(Array.getElem?_eq_some_iff.1 hh).1;refine ⟨some ⟨g,0,none⟩,cap,rfl,⟨fun _=>⟨g,0,rfl,hgl,fun i x hx=>?_⟩,by simpa using hnc,by simp only [maxLen] at hm;omega⟩,fun a ha=>?_⟩
  ·have hc:=h0.cells (g:=g) rfl i (enc x) (by rw [cN,hx];rfl);rw [add0] at hc;exact hR w _ g _ x (by simpa using hc)
  ·injection ha with ha
   subst ha;exact ⟨hg,hgl⟩
theorem dE {X:World} {b m n:Nat} {e:TypeId} {v:Value} {xs:List Value} (h:X.ownsRow b e m v n xs):∃A c,v = .slice A n c:=by
 rcases h.2 with ⟨h1,h2⟩ | ⟨g',cap,cur,h1,_⟩
 ·exact ⟨none,0,by rw [h1,h2]⟩
 ·exact ⟨_,cap,h1⟩
theorem alF (w:World) (o:Obj):Below w.heap.size w (w.alloc o):=(aX _ _).alloc (aY _) _
def szN (s:ByteArray):Nat:=min s.size 9000
def sumN (l:List ByteArray):Nat:=(l.map (fun s=>1+szN s)).sum
theorem jM (l:List ByteArray) (s:ByteArray):sumN (l ++ [s])=sumN l+(1+szN s):=by simp [sumN]
theorem gI (w:World) (cs:List Value) (t:TypeId) (j:Nat) (u:Value) (h:cs[j]?=some u):(w.alloc (.cells cs.toArray t)).cell? ⟨w.heap.size,j,none⟩=some u:=by
 rw [World.cell?_alloc_at _ _ _ _ (by simp)];simpa using h
theorem xFH (w:World) (x:ByteArray):∀j u,[Value.string x][j]?=some u->(w.alloc (.cells #[.string x] 9)).cell? ((⟨w.heap.size,0,none⟩:Addr).add j)=some u:=fun j u hj=>by
 rw [add0];exact gI w [.string x] 9 j u hj
theorem xFG (x:ByteArray):∀u∈[Value.string x],u.oneCell'=true:=fun u hu=>by simp at hu;subst hu;rfl
end
section
open Go.RowKit
section
variable {P:Program} {ops:Array Oper} {Q:Exit->Act->World->Prop} {md:Region.Mode} {S:World->Prop} {t:Nat}
def waitsB (md:Region.Mode) (ops:Array Oper) (U:List Nat) (i j:Nat):Bool:=match ops[j]? with
 | some oj=>oj.after.any (fun e=>Region.binds md e && (e.on == i || U.contains e.on))
 | none=>false
def behind (md:Region.Mode) (ops:Array Oper) (listed:Array Bool) (i:Nat):Nat->List Nat->List Nat
 | 0,U=>U
 | n+1,U=>behind md ops listed i n ((List.range ops.size).filter fun j=> !listed.getD j true && (decide (j≠i) && waitsB md ops U i j))
def okU (md:Region.Mode) (ops:Array Oper) (listed:Array Bool) (i:Nat) (U:List Nat):Bool:=U.all fun j=> !listed.getD j true && (decide (j≠i) && waitsB md ops U i j)
def lateU (ops:Array Oper) (t:Nat) (listed:Array Bool) (i:Nat) (U:List Nat):Bool:=
 (List.range ops.size).all fun j=>listed.getD j true || decide (j=i) || U.contains j || match ops[i]?,ops[j]? with
   | some oi,some oj=>oi.apart ops oj && decide (j<t)
   | _,_=>true
theorem mA {i:Nat} {oi:Oper} {v:Value} {U:List Nat} (hi:ops[i]?=some oi) (hsel:∀(j:Nat) (o:Oper) cs b,ops[j]?=some o->o.op ≠ .select cs b)
 (hQ:∀c a w,Q (.panic c) (a.put oi.dst v) w->Q (.panic c) a w) (hU:∀j∈U,j≠i/\waitsB md ops U i j=true):
 ∀(fuel:Nat) (listed:Array Bool) (a:Act) (w:World),(∀j∈U,listed.getD j true=false)->
  (∀j oj,ops[j]?=some oj->j≠i->listed.getD j true=false->j∉U->oi.apart ops oj=true/\j<t)->
  i∈Region.ready md ops listed->YieldsIf P ops S oi v a->S w->
  wpAnyM P md ops Q S t fuel (listed.setIfInBounds i true) (a.put oi.dst v) w->wpAnyM P md ops Q S t (fuel+1) listed a w:=by
 intro fuel;induction fuel with
 | zero=>
   intro listed a w _ _ hr hy hS H;refine ⟨fun h=>(by rw [h] at hr;cases hr),fun j hj=>?_⟩;by_cases hji:j=i
   ·subst hji;exact hy.wpOp hi hS ⟨fun _=>hS,H⟩
   ·have:=ready_mono hj hji;rw [H.1] at this;cases this
 | succ fuel ih=>
   intro listed a w hUl hfree hr hy hS H;refine ⟨fun h=>(by rw [h] at hr;cases hr),fun j hj=>?_⟩;by_cases hji:j=i
   ·subst hji;exact hy.wpOp hi hS ⟨fun _=>hS,H⟩
   ·have h1:=H.2 j (ready_mono hj hji);obtain ⟨hjun,oj,hoj,hall⟩:=mem_ready.1 hj
    have unl:∀(k:Nat),listed.getD k true=false->listed.getD k false=true->False:=fun k h0 h1=>by
     rcases Nat.lt_or_ge k listed.size with h' | h'
     ·simp [h'] at h0 h1;rw [h0] at h1;cases h1
     ·simp [Array.getElem?_eq_none h'] at h1
    have hnot:j∉U:=fun hm=>by
     obtain ⟨_,hw⟩:=hU j hm;unfold waitsB at hw;rw [hoj] at hw;obtain ⟨e,he,hb⟩:=Array.any_eq_true'.1 hw;simp only [bP,Bool.or_eq_true,beq_iff_eq] at hb;have h2:=hall e he hb.1;rcases hb.2 with heq | heq
     ·rw [heq] at h2;exact unl i (mem_ready.1 hr).1 (by simpa using h2)
     ·exact unl e.on (hUl e.on (by simpa using heq)) (by simpa using h2)
    have h2:=wpOp_putIf hoj (hfree j oj hoj hji hjun hnot).1 (fun cs b=>hsel i oi cs b hi) (fun cs b=>hsel j oj cs b hoj) hQ hy h1;have hjt:=(hfree j oj hoj hji hjun hnot).2;have hset:∀k,k≠j->(listed.setIfInBounds j true).getD k true=listed.getD k true:=fun k hk=>getD_set_ne true (fun e=>hk e.symm)
    have hUl':∀k∈U,(listed.setIfInBounds j true).getD k true=false:=fun k hk=>by
     rw [hset k (fun e=>hnot (e ▸ hk))];exact hUl k hk
    have hfree':∀k ok,ops[k]?=some ok->k≠i->(listed.setIfInBounds j true).getD k true=false->k∉U->oi.apart ops ok=true/\k<t:=fun k ok hk hki hun hno=>by
     refine hfree k ok hk hki ?_ hno;by_cases hjk:j=k
     ·subst hjk;exact hjun
     ·rw [hset k (fun e=>hjk e.symm)] at hun;exact hun
    refine wpOp_mono (fun a' w' h3=>⟨h3.2.1,ih (listed.setIfInBounds j true) a' w' hUl' hfree' (ready_mono hr (Ne.symm hji)) h3.1 (h3.2.1 hjt) ?_⟩) h2;rw [Array.setIfInBounds_comm _ _ hji];exact h3.2.2
def okO2 (ops:Array Oper) (t:Nat) (ord:List Nat) (k:Nat):Bool:=
 let l:=lstO ops.size ord k
 let i:=ord.getD k 0
 let U:=behind .any ops l i ops.size []
 decide (k<ord.length) && (decide (k<ops.size) && (decide (i<ops.size) && (Region.noSelect ops && (okU .any ops l i U && (lateU ops t l i U && (Region.ready .any ops l).contains i)))))
theorem jI {t:Nat} {ord:List Nat} {k:Nat} {v:Value} {a:Act} {w:World} (hok:okO2 ops t ord k=true) (hQ:∀c a w,Q (.panic c) (a.put ((ops[ord.getD k 0]?).getD default).dst v) w->Q (.panic c) a w)
 (hy:YieldsIf P ops S ((ops[ord.getD k 0]?).getD default) v a) (hS:S w) (h:wpO P ops Q S t ord (k+1) (a.put ((ops[ord.getD k 0]?).getD default).dst v) w):wpO P ops Q S t ord k a w:=by
 simp only [okO2,bP,decide_eq_true_eq] at hok;obtain ⟨h0,hk0,hk,h1,h2,h3,h4⟩:=hok;have ho:ops[ord.getD k 0]?=some ((ops[ord.getD k 0]?).getD default):=by rw [Array.getElem?_eq_getElem hk];rfl
 unfold wpO at h ⊢;rw [show ops.size - k=(ops.size - (k+1))+1 by omega];have hu:=List.all_eq_true.1 h2;refine mA (U:=behind .any ops (lstO ops.size ord k) (ord.getD k 0) ops.size []) ho (Region.noSelect_spec h1) hQ (fun j hj=>?_) _ _ a w (fun j hj=>?_) (fun j oj hj hne hun hno=>?_) (by simpa using h4) hy hS ?_
 ·have:=hu j hj;simp only [bP,decide_eq_true_eq] at this;exact this.2
 ·have:=hu j hj;simp only [bP,Bool.not_eq_true'] at this;exact this.1
 ·have:=List.all_eq_true.1 h3 j (List.mem_range.2 (Array.getElem?_eq_some_iff.1 hj).1);rw [ho,hj] at this;simp only [hun,Bool.false_or,Bool.or_eq_true,decide_eq_true_eq,bP,List.contains_iff_mem] at this;rcases this with (h5 | h5) | h5
  ·exact absurd h5 hne
  ·exact absurd h5 hno
  ·exact h5
 ·rw [gJ h0];exact h
end
end
section
open Go Go.RowKit
def idxN (s:ByteArray):Nat->List ByteArray->Int
 | _,[]=> -1
 | k,x :: r=>if x=s then k else idxN s (k+1) r
theorem mL (s:ByteArray):∀(k:Nat) (l:List ByteArray),(0<=idxN s k l↔memN s l=true)
 | _,[]=>by simp [idxN,memN]
 | k,x :: r=>by
   unfold idxN;by_cases h:x=s
   ·rw [bA h];simp [memN,h]
   ·rw [aZ h,mL s (k+1) r];simp [memN,h]
theorem nY (l:List ByteArray) (s:ByteArray) (A:Option Addr) (c:Nat) (w:World) (hs:Slc 1 RN w A c l):
 Calls Tryz.prog 90 #[.slice A l.length c,.string s] w fun e' w'=>e' = .returned (.int .i64 (idxN s 0 l))/\w'=w:=by
 have hle:=hs.le;have hbig:=hs.big;obtain ⟨R,hR⟩:∃R,idxN s 0 l=R:=⟨_,rfl⟩;rw [hR];have HR:=aF hR;have HS:=aF hs;clear hR hs;go_enter Tryz.func90,Tryz.ntmps90
 go_wp2_with fail
 go_loop [5] (fun v=>∃k:Nat,k<=l.length/\v = .int .i64 k/\Hid (R=idxN s k (l.drop k))) (fun v=>l.length - (intOf v).toNat)
 case atStart=>exact ⟨0,by omega,rfl,aF HR.out.symm⟩
 case round=>
  obtain ⟨k,hk,rfl,hr⟩:=hrel;by_cases hlt:k<l.length
  ·have hd:=cV hlt;obtain ⟨b,o,rfl,hb,hx⟩:=HS.out.sl.at_ hlt;obtain ⟨y,hy⟩:∃y,l[k]=y:=⟨_,rfl⟩;rw [hy] at hd hx;have x0:w.cell? ⟨b,o+k,none⟩=some (.string y):=by simpa [RN] using hx
   have HN:Hid (R=if y=s then (k:Int) else idxN s (k+1) (l.drop (k+1))):=aF (by rw [hr.out,hd];rfl);clear hx hy hd hr;by_cases h0:y=s
   ·have HF:Hid (R=k):=aF (by rw [HN.out,bA h0]);subst h0;clear HN;go_wp2_with fail
    all_goals first
     | (go_ret;exact ⟨by rw [HF.out];rfl,rfl⟩)
     | (exfalso;simp_all;done)
   ·have HF:Hid (R=idxN s (k+1) (l.drop (k+1))):=aF (by rw [HN.out,aZ h0]);have e1:(y.toList == s.toList)=false:=beq_false_of_ne (fun h=>h0 (xBU (by rw [<- Lib.toList_data,<- Lib.toList_data];exact h)));clear HN h0;go_wp2_with fail
    go_round
    case rel=>exact ⟨k+1,by omega,by go_num,HF⟩
    case measure=>simp [intOf];omega
  ·have HN:Hid (R = -1):=aF (by rw [hr.out,bE (by omega)];rfl);clear hr;go_wp2_with fail
   go_ret;exact ⟨by rw [HN.out];rfl,rfl⟩
end
end Go.Proofs.YtcfchohkmkilpaaGreatDoor
