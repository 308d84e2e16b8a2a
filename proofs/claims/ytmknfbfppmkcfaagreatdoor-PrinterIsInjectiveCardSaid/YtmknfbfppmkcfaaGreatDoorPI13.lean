/-
  Parts of the proof: V2 V3 V48 V13 Y1 A1 V15B Y2.
-/
import Derived.Test.YtmknfbfppmkcfaaGreatDoorPI0
import Derived.Test.YtmknfbfppmkcfaaGreatDoorPI3
import Derived.Test.YtmknfbfppmkcfaaGreatDoorSh
import Derived.Test.YtmknfbfppmkcfaaGreatDoorPI4
import Derived.Test.YtmknfbfppmkcfaaGreatDoorPI1
import Derived.Lib.ItoaNum
import Derived.Lib.Join
import Derived.Lib.ItoaLen
namespace Go.Proofs.YtmknfbfppmkcfaaGreatDoor
set_option maxRecDepth 100000
set_option maxHeartbeats 16000000
section
open Go Go.RowKit Go.Shelf
theorem xAG (c:UInt8):(c.toNat:Int).toNat.toUInt8=c:=by simp
theorem oN (s:ByteArray) (k:Nat) (h:k<s.size):s.data.toList.drop k=s[k] :: s.data.toList.drop (k+1):=by
 rw [cH (by simpa using h)];rfl
theorem tW (s:ByteArray) (k:Nat) (h:s.size<=k):s.data.toList.drop k=[]:=bE (by simpa using h)
theorem eO (s:ByteArray):s.data.toList.length=s.size:=by simp
theorem nU (b:Nat) (x:UInt8) (v:Bool) (w:World) (hc:w.cell? ⟨b,x.toNat,none⟩=some (.bool v)):
 Calls Tryz.prog 205 #[.pointer (some ⟨b,0,none⟩),.int .u8 x.toNat] w fun e w'=>e = .returned (.bool v)/\w'=w:=Tryz.asciiSet_contains b x v w hc
theorem rV {p:UInt8->Bool} {c:UInt8} {r:List UInt8} (h:p c=true):(c :: r).dropWhile p=r.dropWhile p:=by simp [h]
theorem zO {p:UInt8->Bool} {c:UInt8} {r:List UInt8} (h:p c=false):(c :: r).dropWhile p=c :: r:=by simp [h]
theorem wV (s:ByteArray) (b:Nat) (p:UInt8->Bool) (w:World) (hset:∀x:UInt8,w.cell? ⟨b,x.toNat,none⟩=some (.bool (p x))):
 Calls Tryz.prog 177 #[.string s,.pointer (some ⟨b,0,none⟩)] w fun e w'=>(∃t,e = .returned (.string t)/\t.data.toList=s.data.toList.dropWhile p)/\w'=w:=by
 have HS:=aF hset;clear hset;go_enter Tryz.func177,Tryz.ntmps177
 go_wp2_with fail
 go_loop [0] (fun v=>∃t:ByteArray,v = .string t/\t.size<=s.size/\Hid (s.data.toList.dropWhile p=t.data.toList.dropWhile p)) (fun v=>Lib.strSize v)
 case atStart=>exact ⟨s,rfl,aY _,aF rfl⟩
 case round=>
  obtain ⟨t,rfl,hle,hp⟩:=hrel;by_cases h0:0<t.size
  ·have hd:=oN t 0 h0;rw [bX] at hd;have hcx:=HS.out t[0];cases hin:p t[0]
   ·rw [hin] at hcx;have HA:=aF (nU b t[0] false w hcx);have HF:Hid (t.data.toList=s.data.toList.dropWhile p):=aF (by rw [hp.out,hd,zO hin]);clear hd hcx hin hp;go_wp2_with (go_at_call 205;refine HA.out.mono ?_;rintro e w' ⟨rfl,hw⟩;obtain rfl:=hw.symm)
    go_ret;exact ⟨⟨t,rfl,HF.out⟩,rfl⟩
   ·rw [hin] at hcx;have HA:=aF (nU b t[0] true w hcx);have HF:Hid (s.data.toList.dropWhile p=(t.extract 1 t.size).data.toList.dropWhile p):=aF (by rw [hp.out,hd,rV hin,Lib.extract_to_end]);clear hd hcx hin hp;go_wp2_with (go_at_call 205;refine HA.out.mono ?_;rintro e w' ⟨rfl,hw⟩;obtain rfl:=hw.symm)
    go_round
    case rel=>exact ⟨t.extract 1 t.size,rfl,by simp;omega,HF⟩
    case measure=>rw [Lib.strSize_string,Lib.strSize_string];simp;omega
  ·have h00:t.size=0:=by omega
   have hnil:t.data.toList=[]:=bV (by rw [eO];omega);have HF:Hid (t.data.toList=s.data.toList.dropWhile p):=aF (by rw [hp.out,hnil];rfl);clear hnil hp h0;go_wp2_with fail
   go_ret;exact ⟨⟨t,rfl,HF.out⟩,rfl⟩
structure trimRP (s t:ByteArray) (p:UInt8->Bool):Prop where
 one:t.data.toList.all p=true->t.size=0
 two:t.size=0->s.data.toList.all p=true
 three:s.data.toList.all p=true->t.data.toList.all p=true
theorem wU (s:ByteArray) (b:Nat) (p:UInt8->Bool) (w:World) (hs:s.size<=9223372036854775807) (hset:∀x:UInt8,w.cell? ⟨b,x.toNat,none⟩=some (.bool (p x))):
 Calls Tryz.prog 178 #[.string s,.pointer (some ⟨b,0,none⟩)] w fun e w'=>(∃t,e = .returned (.string t)/\trimRP s t p)/\w'=w:=by
 have HS:=aF hset;clear hset;go_enter Tryz.func178,Tryz.ntmps178
 go_wp2_with fail
 go_loop [0] (fun v=>∃t:ByteArray,v = .string t/\t.size<=s.size/\Hid (s.data.toList.all p=t.data.toList.all p)) (fun v=>Lib.strSize v)
 case atStart=>exact ⟨s,rfl,aY _,aF rfl⟩
 case round=>
  obtain ⟨t,rfl,hle,hp⟩:=hrel;by_cases h0:0<t.size
  ·have hk:t.size - 1<t.size:=by omega
   have hd:t.data.toList=(t.extract 0 (t.size - 1)).data.toList ++ [t[t.size - 1]]:=by
    have h1:=oN t (t.size - 1) hk;rw [show t.size - 1+1=t.size by omega,tW t t.size (aY _)] at h1;rw [<- h1,Lib.extract_data,bX,Nat.sub_zero,List.take_append_drop]
   have hcx:=HS.out t[t.size - 1];have hw1:((t.size:Int) - 1)=((t.size - 1:Nat):Int):=by omega
   cases hin:p t[t.size - 1]
   ·rw [hin] at hcx;have HA:=aF (nU b t[t.size - 1] false w hcx);have HF:Hid (t.data.toList.all p=false):=aF (by rw [hd];simp [hin]);clear hd hcx hin;go_wp2_with (go_at_call 205;refine HA.out.mono ?_;rintro e w' ⟨rfl,hw⟩;obtain rfl:=hw.symm)
    go_ret;refine ⟨⟨t,rfl,fun h=>?_,fun h=>by omega,fun h=>by rw [<- hp.out];exact h⟩,rfl⟩;rw [HF.out] at h;cases h
   ·rw [hin] at hcx;have HA:=aF (nU b t[t.size - 1] true w hcx);have HF:Hid (s.data.toList.all p=(t.extract 0 (t.size - 1)).data.toList.all p):=aF (by rw [hp.out,hd,List.all_append,cB,hin];simp);clear hd hcx hin hp;go_wp2_with (go_at_call 205;refine HA.out.mono ?_;rintro e w' ⟨rfl,hw⟩;obtain rfl:=hw.symm)
    go_round
    case rel=>exact ⟨t.extract 0 (t.size - 1),rfl,by simp;omega,HF⟩
    case measure=>rw [Lib.strSize_string,Lib.strSize_string];simp;omega
  ·have h00:t.size=0:=by omega
   have hnil:t.data.toList=[]:=bV (by rw [eO];omega);have HF:Hid (s.data.toList.all p=true/\t.data.toList.all p=true):=aF (by rw [hp.out,hnil];exact ⟨rfl,rfl⟩);clear hnil hp h0;go_wp2_with fail
   go_ret;exact ⟨⟨t,rfl,fun _=>h00,fun _=>HF.out.1,fun _=>HF.out.2⟩,rfl⟩
theorem xDY {p:UInt8->Bool}:∀{l:List UInt8},l.dropWhile p=[]->l.all p=true
 | [],_=>rfl
 | c :: r,h=>by
   cases hc:p c
   ·rw [zO hc] at h;cases h
   ·rw [rV hc] at h;simp only [cB,hc,xDY h,Bool.and_self]
theorem xDZ {p:UInt8->Bool}:∀{l:List UInt8},l.all p=true->l.dropWhile p=[]
 | [],_=>rfl
 | c :: r,h=>by
   simp only [cB,bQ] at h;rw [rV h.1,xDZ h.2]
def lettersA:ByteArray:=⟨#[95,97,98,99,100,101,102,103,104,105,106,107,108,109,110,111,112,113,114,115,116,117,118,119,120,121,122,65,66,67,68,69,70,71,72,73,74,75,76,77,78,79,80,81,82,83,84,85,86,87,88,89,90,48,49,50,51,52,53,54,55,56,57]⟩
theorem xGB:(Tryz.prog.info? 240).map (fun i=>(i.zero,i.size))=some (some (.agg (Array.replicate 256 (.bool false))),256):=by kernel_rfl
theorem xEA:∀w,(zeroValue 240).run Tryz.prog w = .ok (.agg (Array.replicate 256 (.bool false))) w:=fun w=>by
 have h:=xGB;cases hi:Tryz.prog.info? 240 with
 | none=>rw [hi] at h;cases h
 | some i=>
   rw [hi] at h;simp at h;simp [zeroValue,typeInfo,hi,h.1]
theorem xAH {l:List UInt8} (h:l.all (fun c=>decide (c.toNat<128))=true):∀(j:Nat) b,l[j]?=some b->b.toNat<128:=fun j b hj=>by
 simpa using List.all_eq_true.1 h b (List.mem_of_getElem? hj)
theorem xAV (s:ByteArray) (w:World) (h0:0<s.size) (hs:s.size<=9223372036854775807):
 Calls Tryz.prog 146 #[.string s,.string lettersA] w fun e w'=>(∃t,e = .returned (.string t)/\(t.size=0↔s.data.toList.all (fun c=>lettersA.data.toList.contains c)=true))/\Below w.heap.size w w':=by
 have hM:=Tryz.strings_makeASCIISet xEA lettersA w (by decide) (xAH (by decide));have hn1:((lettersA.size:Int) == 1)=false:=by decide
 have hemp:lettersA.toList.isEmpty=false:=by rw [Lib.toList_data];rfl
 have hc0:2<=lettersA.size:=by decide
 generalize lettersA=cutset at *
 have hemps:s.toList.isEmpty=false:=by
  rw [Lib.toList_data];cases h:s.data.toList with
  | nil=>have:=Lib.size_eq s;rw [h,bP] at this;omega
  | cons _ _=>rfl
 have hsc:(storeCells ⟨w.heap.size+1,0,none⟩ (Lib.setCells cutset.data.toList).toList 0).run Tryz.prog ((w.alloc (.cells (Lib.setCells cutset.data.toList) 240)).alloc (.cells (Array.replicate 256 (.bool false)) 240)) = .ok () ((w.alloc (.cells (Lib.setCells cutset.data.toList) 240)).alloc (.cells (Lib.setCells cutset.data.toList) 240)):=by
  have:=run_storeCells_new (P:=Tryz.prog) (w.alloc (.cells (Lib.setCells cutset.data.toList) 240)) 240 (Array.replicate 256 (.bool false)) (Lib.setCells cutset.data.toList) (by rw [Lib.setCells_size];kernel_rfl) (by rw [Lib.setCells_size,Array.size_replicate]) (Lib.setCells_one _);simpa using this
 have hsz:=Lib.setCells_size cutset.data.toList;have hz:Tryz.zeroCells240=Array.replicate 256 (.bool false):=by kernel_rfl
 obtain ⟨W,hW⟩:∃W,((w.alloc (.cells (Lib.setCells cutset.data.toList) 240)).alloc (.cells (Lib.setCells cutset.data.toList) 240))=W:=⟨_,rfl⟩
 have hcellAt:∀x:UInt8,W.cell? ⟨w.heap.size+1,x.toNat,none⟩=some (.bool (cutset.data.toList.contains x)):=fun x=>by
  rw [<- hW,World.cell?_alloc_at _ _ _ _ (by simp),Lib.setCells_at]
 have hB:Below w.heap.size w W:=by rw [<- hW];exact ((aX _ _).alloc (aY _) _).alloc (by simp) _
 have HR:=aF (wU s (w.heap.size+1) (fun c=>cutset.data.toList.contains c) W hs hcellAt);have HL:=aF (fun t=>wV t (w.heap.size+1) (fun c=>cutset.data.toList.contains c) W hcellAt);have HB:=aF hB;clear hcellAt hB hs;go_enter Tryz.func146,Tryz.ntmps146
 go_wp2_with (first
  | (go_at_call 176;refine hM.mono ?_;rintro e w' ⟨rfl,hw⟩;rw [hw])
  | (go_at_call 178;refine HR.out.mono ?_;rintro e w' ⟨⟨t,rfl,ht⟩,hw⟩;obtain rfl:=hw.symm)
  | (go_at_call 177;refine (HL.out _).mono ?_;rintro e w' ⟨⟨u,rfl,hu⟩,hw⟩;obtain rfl:=hw.symm))
 go_ret;refine ⟨⟨u,rfl,⟨fun h=>?_,fun h=>?_⟩⟩,HB.out⟩
 ·have h1:u.data.toList=[]:=bV (by rw [eO];exact h);exact ht.two (ht.one (xDY (hu ▸ h1)))
 ·have h1:=xDZ (ht.three h);rw [<- eO,hu,h1];rfl
def digitsA:ByteArray:=⟨#[48,49,50,51,52,53,54,55,56,57]⟩
theorem xBM (c:UInt8):lettersA.data.toList.contains c=(isLet c || isDig c):=by
 have h:∀n,n<256->lettersA.data.toList.contains (UInt8.ofNat n)=(isLet (UInt8.ofNat n) || isDig (UInt8.ofNat n)):=by decide +kernel
 have:=h c.toNat c.toNat_lt;simpa using this
theorem xET (c:UInt8):digitsA.data.toList.contains c=isDig c:=by
 have h:∀n,n<256->digitsA.data.toList.contains (UInt8.ofNat n)=isDig (UInt8.ofNat n):=by decide +kernel
 have:=h c.toNat c.toNat_lt;simpa using this
theorem xGA (c:UInt8):isLet c=true->isDig c=false:=by
 intro h;simp only [isLet,isDig,Bool.or_eq_true,decide_eq_true_eq,decide_eq_false_iff_not] at *;omega
theorem tT (l:List UInt8):lX l=(decide (1<=l.length) && decide (l.length<=255) && !(l.head?.any isDig) && l.all (fun c=>isLet c || isDig c)):=by
 cases l with
 | nil=>rfl
 | cons c r=>
   have:=xGA c;simp only [lX,bK,List.head?_cons,Option.any_some,cB];cases h1:isLet c <;> cases h2:isDig c <;> simp_all [Bool.and_comm]
theorem index_of_mem (c:UInt8):∀l:List UInt8,(0<=Lib.indexByte l c/\l.contains c=true)\/(Lib.indexByte l c = -1/\l.contains c=false)
 | []=>Or.inr ⟨rfl,rfl⟩
 | b :: l=>by
   unfold Lib.indexByte;by_cases hb:b=c
   ·subst hb;exact Or.inl ⟨by simp,by simp⟩
   ·have hb2:(b == c)=false:=by simpa using hb
    have hb3:(c == b)=false:=by simpa using fun h=>hb h.symm
    rw [hb2,List.contains_cons,hb3];rcases index_of_mem c l with ⟨h1,h2⟩ | ⟨h1,h2⟩
    ·refine Or.inl ⟨?_,by simpa using h2⟩;have:(Lib.indexByte l c == -1)=false:=by simp;omega
     rw [this];simp;omega
    ·refine Or.inr ⟨?_,by simpa using h2⟩;rw [h1];rfl
theorem zB {s:ByteArray} (h:s.size=0):isIdent s=false:=by
 have:s.data.toList=[]:=bV (by rw [eO];exact h);unfold isIdent;rw [this];rfl
theorem fE (s:ByteArray) (w:World):
 Calls Tryz.prog 108 #[.string s] w fun e w'=>e = .returned (.bool (isIdent s))/\Below w.heap.size w w':=by
 by_cases h0:s.size=0
 ·have HI:=aF (zB h0)
  have hemp:s.toList.isEmpty=true:=by
   rw [Lib.toList_data,show s.data.toList=[] from bV (by rw [eO];exact h0)];rfl
  go_enter Tryz.func108,Tryz.ntmps108
  go_wp2_with fail
  go_ret;exact ⟨by rw [HI.out];rfl,aX _ _⟩
 ·have hd:=oN s 0 (by omega);obtain ⟨c,hc⟩:∃c,s[0]'(by omega)=c:=⟨_,rfl⟩;rw [bX,hc] at hd;have hlen:=eO s
  have hemp:s.toList.isEmpty=false:=by
   rw [Lib.toList_data,hd];rfl
  have HI:Hid (isIdent s=(decide (1<=s.size) && decide (s.size<=255) && !(isDig c) && s.data.toList.all (fun c=>lettersA.data.toList.contains c))):=aF (by
   unfold isIdent;rw [tT,hlen,hd]
   simp only [List.head?_cons,Option.any_some,xBM])
  have hx:=index_of_mem c digitsA.data.toList;rw [xET] at hx;have hib:=Tryz.strings_IndexByte digitsA c.toNat w;rw [xAG] at hib;generalize Lib.indexByte digitsA.data.toList c=j at hx hib;have HIB:=aF hib;obtain ⟨dg,hdg⟩:∃dg,isDig c=dg:=⟨_,rfl⟩;rw [hdg] at hx HI;clear hd hdg hlen hib;by_cases h1:s.size<=255
  ·have HT:=aF (xAV s w (by omega) (by omega));rcases hx with ⟨hj,rfl⟩ | ⟨rfl,rfl⟩
   ·go_enter Tryz.func108,Tryz.ntmps108
    go_wp2_with (go_at_call 145;refine HIB.out.mono ?_;rintro e' w' ⟨rfl,hw'⟩;obtain rfl:=hw'.symm)
    go_ret;exact ⟨by rw [HI.out];simp,aX _ _⟩
   ·go_enter Tryz.func108,Tryz.ntmps108
    go_wp2_with (first
     | (go_at_call 145;refine HIB.out.mono ?_;rintro e' w' ⟨rfl,hw'⟩;obtain rfl:=hw'.symm)
     | (go_at_call 146;refine HT.out.mono ?_;rintro e' w1 ⟨⟨t,rfl,ht⟩,hb1⟩))
    go_ret;refine ⟨?_,hb1⟩
    have he:t.toList.isEmpty=s.data.toList.all (fun c=>lettersA.data.toList.contains c):=by
     rw [bR,<- ht,Lib.toList_data,List.isEmpty_iff,<- List.length_eq_zero_iff,eO]
    rw [HI.out,<- he];simp [h1];omega
  ·go_enter Tryz.func108,Tryz.ntmps108
   go_wp2_with fail
   go_ret;exact ⟨by rw [HI.out];simp [h1],aX _ _⟩
theorem xFZ (c:UInt8):isLet c=((decide (97<=(c.toNat:Int)) && decide ((c.toNat:Int)<=122)) || (decide (65<=(c.toNat:Int)) && decide ((c.toNat:Int)<=90)) || decide ((c.toNat:Int)=95)):=by
 rw [bR];simp only [isLet,Bool.or_eq_true,bQ,decide_eq_true_eq];omega
def okAt (k:Nat) (c:UInt8):Bool:=isLet c || (decide (k≠0) && isDig c)
def okFrom:Nat->List UInt8->Bool
 | _,[]=>true
 | k,c :: r=>okAt k c && okFrom (k+1) r
theorem lP:∀(l:List UInt8) (k:Nat),okFrom (k+1) l=l.all (fun c=>isLet c || isDig c)
 | [],_=>rfl
 | c :: r,k=>by simp [okFrom,okAt,lP r]
theorem vU (l:List UInt8):lX l=(okFrom 0 l && (decide (1<=l.length) && decide (l.length<=255))):=by
 cases l with
 | nil=>rfl
 | cons c r=>
   simp only [lX,okFrom,lP,okAt,bK];rw [bR];simp only [bQ,Bool.or_eq_true,decide_eq_true_eq];constructor
   ·rintro ⟨⟨h1,h2⟩,h3⟩;exact ⟨⟨.inl h1,h2⟩,by omega,by omega⟩
   ·rintro ⟨⟨h1,h2⟩,h3⟩;exact ⟨⟨h1.resolve_right (by simp),h2⟩,by omega⟩
theorem gL (s:ByteArray) (w:World) (hs:s.size<=9223372036854775807):
 Calls Tryz.prog 92 #[.string s] w fun e w'=>e = .returned (.bool (isIdent s))/\w'=w:=by
 obtain ⟨R,hR⟩:∃R,okFrom 0 s.data.toList=R:=⟨_,rfl⟩;have HR:Hid (isIdent s=(R && (decide (1<=s.size) && decide (s.size<=255)))):=aF (by unfold isIdent;rw [vU,hR,eO]);generalize isIdent s=q at HR ⊢;have HR0:=aF hR;clear hR;go_enter Tryz.func92,Tryz.ntmps92
 go_wp2_with fail
 go_loop [3] (fun v=>∃k:Nat,k<=s.size/\v = .int .i64 k/\Hid (R=okFrom k (s.data.toList.drop k))) (fun v=>s.size - (intOf v).toNat)
 case atStart=>exact ⟨0,Nat.zero_le _,rfl,aF HR0.out.symm⟩
 case round=>
  obtain ⟨k,hk,rfl,hr⟩:=hrel;by_cases hlt:k<s.size
  ·have hd:=oN s k hlt;obtain ⟨c,hc⟩:∃c,s[k]=c:=⟨_,rfl⟩;rw [hc] at hd;have hcb:c.toNat<256:=c.toNat_lt;obtain ⟨y,hy⟩:∃y,c.toNat=y:=⟨_,rfl⟩
   have HOK:Hid (okAt k c=((decide (97<=(y:Int)) && decide ((y:Int)<=122)) || (decide (65<=(y:Int)) && decide ((y:Int)<=90)) || decide ((y:Int)=95) || (decide (k≠0) && (decide (48<=(y:Int)) && decide ((y:Int)<=57))))):=aF (by
    rw [<- hy];unfold okAt
    rw [xFZ,show isDig c=(decide (48<=(c.toNat:Int)) && decide ((c.toNat:Int)<=57)) by rw [bR];simp only [isDig,bQ,decide_eq_true_eq];omega])
   have HN:Hid (R=(okAt k c && okFrom (k+1) (s.data.toList.drop (k+1)))):=aF (by rw [hr.out,hd];rfl);rw [hy] at hcb;have hcy:s[k].toNat=y:=by rw [hc,hy]
   clear hd hr;cases hz:okAt k c
   ·have HZ:Hid (R=false):=aF (by rw [HN.out,hz];rfl);rw [hz] at HOK;clear hz HN;go_wp2_with fail
    all_goals first
     | (go_ret;exact ⟨by rw [HR.out,HZ.out];rfl,rfl⟩)
     | (exfalso;have:=HOK.out;clear HOK HZ HR HR0;grind)
   ·have HZ:Hid (R=okFrom (k+1) (s.data.toList.drop (k+1))):=aF (by rw [HN.out,hz];rfl);rw [hz] at HOK;clear hz HN;go_wp2_with fail
    all_goals first
     | (go_round
        case rel=>exact ⟨k+1,by omega,by go_num,HZ⟩
        case measure=>simp [intOf];omega)
     | (exfalso;have:=HOK.out;clear HOK HZ HR HR0;grind)
  ·have HQ:Hid (q=(decide (1<=s.size) && decide (s.size<=255))):=aF (by rw [HR.out,hr.out,tW s k (by omega)];rfl);clear hr HR;rcases (show s.size<1\/(1<=s.size/\s.size<=255)\/255<s.size by omega) with h | ⟨h,h'⟩ | h
   ·obtain rfl:q=false:=by rw [HQ.out];simp;omega
    clear HQ;go_wp2_with fail
    go_ret;exact ⟨rfl,rfl⟩
   ·obtain rfl:q=true:=by rw [HQ.out];simp;omega
    clear HQ;go_wp2_with fail
    go_ret;exact ⟨by simp;omega,rfl⟩
   ·obtain rfl:q=false:=by rw [HQ.out];simp;omega
    clear HQ;go_wp2_with fail
    go_ret;exact ⟨by simp;omega,rfl⟩
end
section
open Go Go.RowKit Go.Maps
def seenF (ns:List ByteArray) (l:List UInt8):Bool:=ns.any (fun s=>decide (s.data.toList=l))
theorem nO {s t:ByteArray} (h:s.data.toList=t.data.toList):s=t:=by
 cases s;cases t
 simpa using h
theorem pK (ns:List ByteArray) (s:ByteArray):seenF ns s.data.toList=memN s ns:=by
 unfold seenF memN;congr 1
 funext x
 rw [decide_eq_decide];exact ⟨nO,fun h=>by rw [h]⟩
theorem pJ (ns:List ByteArray) (s:ByteArray):strF (seenF (s :: ns)) (.string s.data.toList)=true:=by
 simp [strF,seenF]
theorem pI (ns:List ByteArray) (s:ByteArray):∀x,x≠Lit.string s.data.toList->strF (seenF (s :: ns)) x=strF (seenF ns) x:=by
 intro x hx;cases x <;> try rfl
 rename_i l;have:s.data.toList≠l:=fun h=>hx (by rw [h])
 simp [strF,seenF,this]
theorem sS:strF (seenF [])=fun _=>false:=by
 funext x
 cases x <;> rfl
theorem law9:Keyed Tryz.prog 9:=string_keyed Tryz.underlying9
theorem vT {s:ByteArray} (h:isIdent s=true):s.size<=255:=by
 unfold isIdent at h;rw [tT] at h;simp only [bQ,decide_eq_true_eq,eO] at h;omega
theorem key9 {s:ByteArray} (h:isIdent s=true):keyOf Tryz.prog 9 (.string s)=some (.string s.data.toList):=Go.WideMaps.keyOf_string_mk Tryz.underlying9 (by have:=vT h;unfold maxLen;omega)
theorem zeroB:∀w,(zeroValue 4).run Tryz.prog w = .ok (.bool false) w:=Tryz.zeroValue4
theorem yH (l:List ByteArray) (A:Option Addr) (c:Nat) (w:World) (hs:Slc 1 RN w A c l):
 Calls Tryz.prog 110 #[.slice A l.length c] w fun e' w'=>e' = .returned (.int .i64 (namesC l))/\Below w.heap.size w w':=by
 have hle:=hs.le;have hbig:=hs.big;unfold namesC;by_cases h0:65535<l.length
 ·rw [bA h0];clear hs;go_enter Tryz.func110,Tryz.ntmps110
  go_wp2_with fail
  go_ret;exact ⟨rfl,aX _ _⟩
 rw [aZ h0];obtain ⟨R,hR⟩:∃R,namesE [] l=R:=⟨_,rfl⟩;rw [hR];have HR:=aF hR;have HS:=aF hs;clear hR hs;have hmm:= @run_makeMap Tryz.prog;go_enter Tryz.func110,Tryz.ntmps110
 go_wp2_with fail
 go_loopw [12] (fun v wr=>∃(k:Nat) (ns:List ByteArray),k<=l.length/\v = .int .i64 k/\OwnB Tryz.prog 9 4 wr w.heap.size k (strF (seenF ns))/\Hid (Below w.heap.size w wr)/\Hid (R=namesE ns (l.drop k))) (fun v _=>l.length - (intOf v).toNat)
 case atStart=>exact ⟨0,[],by omega,rfl,by rw [sS];exact OwnB.made _ _ _ _,aF ((aX _ _).alloc (aY _) _),aF HR.out.symm⟩
 case round=>
  obtain ⟨k,ns,hk,rfl,hown,hB,hr⟩:=hrel;by_cases hlt:k<l.length
  ·have hd:=cV hlt;obtain ⟨b,o,rfl,hb,hx⟩:=(HS.out.sl.keep RN.keeps hB.out.size hB.out).at_ hlt;obtain ⟨s,hsx⟩:∃s,l[k]=s:=⟨_,rfl⟩;rw [hsx] at hd hx;have x0:wr.cell? ⟨b,o+k,none⟩=some (.string s):=by simpa [RN] using hx
   have HI:=aF (fE s wr);have HN:Hid (R=if isIdent s=false then 12 else if memN s ns=true then 21 else namesE (s :: ns) (l.drop (k+1))):=aF (by rw [hr.out,hd];rfl);have hsz:=hB.out.size;clear hd hx hr hsx;cases hid:isIdent s
   ·rw [hid] at HI HN;clear hid hown;go_wp2_with (go_at_call 108;refine HI.out.mono ?_;rintro e' w1 ⟨rfl,hb1⟩)
    go_ret;exact ⟨by rw [HN.out];rfl,hB.out.trans (hb1.mono hsz)⟩
   ·have hkey:=key9 hid;rw [hid] at HI HN;have HM:=aF (pK ns s);clear hid;cases hm:memN s ns
    ·have HN':Hid (R=namesE (s :: ns) (l.drop (k+1))):=aF (by rw [HN.out,hm];rfl);have HF:Hid (strF (seenF ns) (.string s.data.toList)=false):=aF (by simp only [strF];rw [HM.out,hm]);clear hm HN HM
     go_wp2_with (first
      | (go_at_call 108;refine HI.out.mono ?_;rintro e' w1 ⟨rfl,hb1⟩;have hown1:=hown.below hb1)
      | (at_lookup;refine dH _ rfl _ _ 200 rfl 9 4 law9 Tryz.underlying200 Tryz.underlying4 (zeroB _) _ _ _ rfl hown1 _ _ rfl hkey ?_;rw [HF.out])
      | (at_mapUpdate;refine eJ _ rfl _ _ _ 200 rfl 9 4 law9 Tryz.underlying200 Tryz.underlying4 _ _ _ rfl hown1 (by unfold maxLen;omega) _ _ _ rfl rfl hkey trivial _ (pJ ns s) (pI ns s) ?_;intro w2 hown2 hg2))
     go_roundw
     case rel=>exact ⟨k+1,s :: ns,by omega,by go_num,hown2,aF ((hB.out.trans (hb1.mono hsz)).trans (eF hg2 (aY _) (bZ hsz hb1.size))),HN'⟩
     case measure=>simp [intOf];omega
    ·have HN':Hid (R=21):=aF (by rw [HN.out,hm];rfl);have HF:Hid (strF (seenF ns) (.string s.data.toList)=true):=aF (by simp only [strF];rw [HM.out,hm]);clear hm HN HM
     go_wp2_with (first
      | (go_at_call 108;refine HI.out.mono ?_;rintro e' w1 ⟨rfl,hb1⟩;have hown1:=hown.below hb1)
      | (at_lookup;refine dH _ rfl _ _ 200 rfl 9 4 law9 Tryz.underlying200 Tryz.underlying4 (zeroB _) _ _ _ rfl hown1 _ _ rfl hkey ?_;rw [HF.out]))
     go_ret;exact ⟨by rw [HN'.out];rfl,hB.out.trans (hb1.mono hsz)⟩
  ·have HN:Hid (R=0):=aF (by rw [hr.out,bE (by omega)];rfl);clear hr hown;go_wp2_with fail
   go_ret;exact ⟨by rw [HN.out];rfl,hB.out⟩
def bxW (w:World) (b:Bdy) (h:BH):World:=w.alloc (.cells (bdC b h).toArray 28)
theorem oX (w:World) (b:Bdy) (h:BH):(bxW w b h).heap.size=w.heap.size+1:=by simp [bxW]
theorem mG (w:World) (b:Bdy) (h:BH):Below w.heap.size w (bxW w b h):=(aX _ _).alloc (aY _) _
theorem oW {w wr:World} {b:Bdy} {h:BH} (hB:Below (w.heap.size+1) (bxW w b h) wr) (i:Nat) (v:Value) (hi:(bdC b h)[i]?=some v):wr.cell? ⟨w.heap.size,i,none⟩=some v:=by
 refine (hB.cell (p:=⟨w.heap.size,i,none⟩) (by simp)).trans ?_;rw [bxW,World.cell?_alloc_at _ _ _ _ (by simp)];simpa using hi
theorem nM {w wr:World} {b:Bdy} {h:BH} (hB:Below (w.heap.size+1) (bxW w b h) wr):Below w.heap.size w wr:=
 (mG w b h).trans (hB.mono (by omega))
theorem qX (w:World) (x y:Value) (t:TypeId):(w.alloc (.cells #[x,y] t)).cell? ⟨w.heap.size,0,none⟩=some x/\(w.alloc (.cells #[x,y] t)).cell? ⟨w.heap.size,1,none⟩=some y:=by
 constructor <;> (rw [World.cell?_alloc_at _ _ _ _ (by simp)];rfl)
theorem keepA {w W:World} {o:Obj} {p:Addr} {v:Value} (hb:Below (w.alloc o).heap.size (w.alloc o) W) (h:w.cell? p=some v):W.cell? p=some v:=
 cM hb (((((aX w.heap.size w).alloc (aY _) o).cell (p:=p) (cD w p h))).trans h)
theorem vR (b:Bdy) (bh:BH) (w:World) (H:BdAt w b bh):
 Calls Tryz.prog 113 #[.agg (bdC b bh).toArray] w fun e' w'=>e' = .returned (.int .i64 (localsC b))/\Below w.heap.size w w':=by
 obtain ⟨A1,c1,A2,c2,A3,c3,A4,c4,A5,c5⟩:=bh;have hle:=H.loc.le;have hbig:=H.loc.big;have HLOC:=aF H.loc;have htl:=H.typ.le;have htb:=H.typ.big;unfold localsC;clear H;unfold bdC;simp only at hle hbig htl htb HLOC ⊢;have HBX:=aF (mG w b ⟨A1,c1,A2,c2,A3,c3,A4,c4,A5,c5⟩);by_cases h0:65535<b.locals.length
 ·rw [bA h0];go_enter Tryz.func113,Tryz.ntmps113
  go_wp2_with fail
  go_ret;exact ⟨rfl,HBX.out⟩
 rw [aZ h0];obtain ⟨R,hR⟩:∃R,localsE b.types.length [] b.locals=R:=⟨_,rfl⟩;rw [hR];have HR:=aF hR;clear hR;obtain ⟨Q,hQ⟩:∃Q,(if R=0 then (if b.args<0\/(b.locals.length:Int)<b.args then 3 else 0) else R)=Q:=⟨_,rfl⟩;rw [hQ];have HQ:=aF hQ;clear hQ;have hmm:= @run_makeMap Tryz.prog;go_enter Tryz.func113,Tryz.ntmps113
 go_wp2_with fail
 go_loopw [14] (fun v wr=>∃(k:Nat) (ns:List ByteArray),k<=b.locals.length/\v = .int .i64 k/\OwnB Tryz.prog 9 4 wr (w.heap.size+1) k (strF (seenF ns))/\Hid (Below (w.heap.size+1) (bxW w b ⟨A1,c1,A2,c2,A3,c3,A4,c4,A5,c5⟩) wr)/\Hid (R=localsE b.types.length ns (b.locals.drop k))) (fun v _=>b.locals.length - (intOf v).toNat)
 case atStart=>exact ⟨0,[],by omega,rfl,by rw [sS];have:=OwnB.made (bxW w b ⟨A1,c1,A2,c2,A3,c3,A4,c4,A5,c5⟩) Tryz.prog 9 4;rw [oX] at this;exact this,aF ((aX _ (bxW w b ⟨A1,c1,A2,c2,A3,c3,A4,c4,A5,c5⟩)).alloc (by rw [oX];omega) _),aF HR.out.symm⟩
 case round=>
  obtain ⟨k,ns,hk,rfl,hown,hB,hr⟩:=hrel;have x3:=oW hB.out 3 _ rfl;have x4:=oW hB.out 4 _ rfl;have x5:=oW hB.out 5 _ rfl;have hsz:=hB.out.size;rw [oX] at hsz;by_cases hlt:k<b.locals.length
  ·have hd:=cV hlt;obtain ⟨bb,o,rfl,hb,hx⟩:=(HLOC.out.sl.keep RLc.keeps (bZ (Nat.le_succ _) hsz) (nM hB.out)).at_ hlt;obtain ⟨s,hsx⟩:∃s,b.locals[k]=s:=⟨_,rfl⟩;rw [hsx] at hd hx;obtain ⟨y0,y1⟩:=hx;have hls:=dA hb;have HN:Hid (R=if isIdent s.name=false then 12 else if memN s.name ns=true then 21 else if s.type<0\/(b.types.length:Int)<=s.type then 3 else localsE b.types.length (s.name :: ns) (b.locals.drop (k+1))):=aF (by rw [hr.out,hd];rfl);clear hd hr hsx;cases hid:isIdent s.name
   ·have HF:Hid (Q=12):=aF (by rw [<- HQ.out,HN.out,hid];rfl);have HI:Hid (∀W,Calls Tryz.prog 108 #[.string s.name] W fun e w'=>e = .returned (.bool false)/\Below W.heap.size W w'):=aF (fun W=>by rw [<- hid];exact fE s.name W);clear hid hown HN;go_wp2_with (go_at_call 108;refine (HI.out _).mono ?_;rintro e' w1 ⟨rfl,hb1⟩)
    go_ret;exact ⟨by rw [HF.out];rfl,((nM hB.out).alloc (by omega) _).trans (hb1.mono (by simp;omega))⟩
   ·have hkey:=key9 hid;have HI:Hid (∀W,Calls Tryz.prog 108 #[.string s.name] W fun e w'=>e = .returned (.bool true)/\Below W.heap.size W w'):=aF (fun W=>by rw [<- hid];exact fE s.name W);have HM:=aF (pK ns s.name);rw [hid] at HN;clear hid;cases hm:memN s.name ns
    case true=>
     have HF:Hid (Q=21):=aF (by rw [<- HQ.out,HN.out,hm];rfl);have HS:Hid (strF (seenF ns) (.string s.name.data.toList)=true):=aF (by simp only [strF];rw [HM.out,hm]);clear hm HN HM
     go_wp2_with (first
      | (go_at_call 108;refine (HI.out _).mono ?_;rintro e' w1 ⟨rfl,hb1⟩;have hown1:=(hown.alloc _).below hb1;obtain ⟨z0,z1⟩:=qX wr (.string s.name) (.int .i64 s.type) 48;replace z0:=cM hb1 z0;replace z1:=cM hb1 z1;have z3:=keepA hb1 x3)
      | (at_lookup;refine dH _ rfl _ _ 200 rfl 9 4 law9 Tryz.underlying200 Tryz.underlying4 (zeroB _) _ _ _ rfl hown1 _ _ rfl hkey ?_;rw [HS.out]))
     go_ret;exact ⟨by rw [HF.out];rfl,((nM hB.out).alloc (by omega) _).trans (hb1.mono (by simp;omega))⟩
    case false=>
     have HS:Hid (strF (seenF ns) (.string s.name.data.toList)=false):=aF (by simp only [strF];rw [HM.out,hm]);rw [hm] at HN;have HT:Hid ((s.type<0\/(b.types.length:Int)<=s.type)->Q=3):=aF (fun h=>by rw [<- HQ.out,HN.out];simp only [Bool.true_eq_false,Bool.false_eq_true,if_false];rw [bA h];rfl);have HG:Hid (¬(s.type<0\/(b.types.length:Int)<=s.type)->R=localsE b.types.length (s.name :: ns) (b.locals.drop (k+1))):=aF (fun h=>by rw [HN.out];simp only [Bool.true_eq_false,Bool.false_eq_true,if_false];rw [aZ h]);clear hm HN HM;by_cases hty:s.type<0\/(b.types.length:Int)<=s.type
     ·have HF:=aF (HT.out hty);clear HT HG
      go_wp2_with (first
       | (go_at_call 108;refine (HI.out _).mono ?_;rintro e' w1 ⟨rfl,hb1⟩;have hown1:=(hown.alloc _).below hb1;obtain ⟨z0,z1⟩:=qX wr (.string s.name) (.int .i64 s.type) 48;replace z0:=cM hb1 z0;replace z1:=cM hb1 z1;have z3:=keepA hb1 x3)
       | (at_lookup;refine dH _ rfl _ _ 200 rfl 9 4 law9 Tryz.underlying200 Tryz.underlying4 (zeroB _) _ _ _ rfl hown1 _ _ rfl hkey ?_;rw [HS.out]))
      all_goals first
       | (exfalso;omega)
       | (go_ret
          exact ⟨by rw [HF.out];rfl,((nM hB.out).alloc (by omega) _).trans (hb1.mono (by simp;omega))⟩)
     ·have HF:=aF (HG.out hty);clear HT HG;have e1:¬s.type<0:=(by omega);have e2:¬(b.types.length:Int)<=s.type:=(by omega);clear hty
      go_wp2_with (first
       | (go_at_call 108;refine (HI.out _).mono ?_;rintro e' w1 ⟨rfl,hb1⟩;have hown1:=(hown.alloc _).below hb1;obtain ⟨z0,z1⟩:=qX wr (.string s.name) (.int .i64 s.type) 48;replace z0:=cM hb1 z0;replace z1:=cM hb1 z1;have z3:=keepA hb1 x3)
       | (at_lookup;refine dH _ rfl _ _ 200 rfl 9 4 law9 Tryz.underlying200 Tryz.underlying4 (zeroB _) _ _ _ rfl hown1 _ _ rfl hkey ?_;rw [HS.out])
       | (at_mapUpdate;refine eJ _ rfl _ _ _ 200 rfl 9 4 law9 Tryz.underlying200 Tryz.underlying4 _ _ _ rfl hown1 (by unfold maxLen;omega) _ _ _ rfl rfl hkey trivial _ (pJ ns s.name) (pI ns s.name) ?_;intro w2 hown2 hg2))
      go_roundw
      case rel=>
       have hsz1:=hb1.size;simp only [bI] at hsz1;exact ⟨k+1,s.name :: ns,by omega,by go_num,hown2,aF (((hB.out.alloc (by omega) _).trans (hb1.mono (by simp;omega))).trans (eF hg2 (by omega) (by omega))),HF⟩
      case measure=>simp [intOf];omega
  ·have HN:Hid (R=0):=aF (by rw [hr.out,bE (by omega)];rfl);have HF:Hid (Q=if b.args<0\/(b.locals.length:Int)<b.args then 3 else 0):=aF (by rw [<- HQ.out,HN.out,bA rfl]);clear hr hown;by_cases ha:b.args<0\/(b.locals.length:Int)<b.args
   ·rw [bA ha] at HF;go_wp2_with fail
    all_goals first
     | (exfalso;omega)
     | (go_ret;exact ⟨by rw [HF.out];rfl,nM hB.out⟩)
   ·rw [aZ ha] at HF;have e1:¬b.args<0:=(by omega);have e2:¬(b.locals.length:Int)<b.args:=(by omega);clear ha;go_wp2_with fail
    go_ret;exact ⟨by rw [HF.out];rfl,nM hB.out⟩
end
section
open Go Go.RowKit
def idxN (s:ByteArray):Nat->List ByteArray->Int
 | _,[]=> -1
 | k,x :: r=>if x=s then k else idxN s (k+1) r
theorem oM (s:ByteArray):∀(k:Nat) (l:List ByteArray),(0<=idxN s k l↔memN s l=true)
 | _,[]=>by simp [idxN,memN]
 | k,x :: r=>by
   unfold idxN;by_cases h:x=s
   ·rw [bA h];simp [memN,h]
   ·rw [aZ h,oM s (k+1) r];simp [memN,h]
theorem qI (l:List ByteArray) (s:ByteArray) (A:Option Addr) (c:Nat) (w:World) (hs:Slc 1 RN w A c l):
 Calls Tryz.prog 93 #[.slice A l.length c,.string s] w fun e' w'=>e' = .returned (.int .i64 (idxN s 0 l))/\w'=w:=by
 have hle:=hs.le;have hbig:=hs.big;obtain ⟨R,hR⟩:∃R,idxN s 0 l=R:=⟨_,rfl⟩;rw [hR];have HR:=aF hR;have HS:=aF hs;clear hR hs;go_enter Tryz.func93,Tryz.ntmps93
 go_wp2_with fail
 go_loop [5] (fun v=>∃k:Nat,k<=l.length/\v = .int .i64 k/\Hid (R=idxN s k (l.drop k))) (fun v=>l.length - (intOf v).toNat)
 case atStart=>exact ⟨0,by omega,rfl,aF HR.out.symm⟩
 case round=>
  obtain ⟨k,hk,rfl,hr⟩:=hrel;by_cases hlt:k<l.length
  ·have hd:=cV hlt;obtain ⟨b,o,rfl,hb,hx⟩:=HS.out.sl.at_ hlt;obtain ⟨y,hy⟩:∃y,l[k]=y:=⟨_,rfl⟩;rw [hy] at hd hx;have x0:w.cell? ⟨b,o+k,none⟩=some (.string y):=by simpa [RN] using hx
   have HN:Hid (R=if y=s then (k:Int) else idxN s (k+1) (l.drop (k+1))):=aF (by rw [hr.out,hd];rfl);clear hx hy hd hr;by_cases h0:y=s
   ·have HF:Hid (R=k):=aF (by rw [HN.out,bA h0]);subst h0;clear HN;go_wp2_with fail
    all_goals first
     | (go_ret;exact ⟨by rw [HF.out];rfl,rfl⟩)
     | (exfalso;simp_all;done)
   ·have HF:Hid (R=idxN s (k+1) (l.drop (k+1))):=aF (by rw [HN.out,aZ h0]);have e1:(y.toList == s.toList)=false:=beq_false_of_ne (fun h=>h0 (nO (by rw [<- Lib.toList_data,<- Lib.toList_data];exact h)));clear HN h0;go_wp2_with fail
    go_round
    case rel=>exact ⟨k+1,by omega,by go_num,HF⟩
    case measure=>simp [intOf];omega
  ·have HN:Hid (R = -1):=aF (by rw [hr.out,bE (by omega)];rfl);clear hr;go_wp2_with fail
   go_ret;exact ⟨by rw [HN.out];rfl,rfl⟩
def BxC (w:World) (n:Nat) (b:Bdy) (bh:BH):Prop:=∀i v,(bdC b bh)[i]?=some v->w.cell? ⟨n,i,none⟩=some v
theorem BxC.new (w:World) (b:Bdy) (bh:BH):BxC (bxW w b bh) w.heap.size b bh:=fun i v hi=>oW (aX _ _) i v hi
theorem BxC.keep {w w':World} {n:Nat} {b:Bdy} {bh:BH} (h:BxC w n b bh) (hb:Below w.heap.size w w'):BxC w' n b bh:=fun i v hi=>cM hb (h i v hi)
theorem xCS (W:World) (x y z u:Int) (T:TypeId) (k:Nat) (hk:k=W.heap.size):Slc 1 RInt (W.alloc (.cells #[.int .i64 x,.int .i64 y,.int .i64 z,.int .i64 u] T)) (some ⟨k,0,none⟩) 4 [x,y,z,u]:=by
 subst hk;refine ⟨fun _=>⟨_,_,rfl,by simp,fun i q hi=>?_⟩,by simp,by omega⟩;show (W.alloc _).cell? ⟨W.heap.size,0+i * 1,none⟩=_;rw [World.cell?_alloc_at _ _ _ _ (by simp),Nat.zero_add,Nat.mul_one];match i,hi with
 | 0,hi=>simp at hi;subst hi;rfl
 | 1,hi=>simp at hi;subst hi;rfl
 | 2,hi=>simp at hi;subst hi;rfl
 | 3,hi=>simp at hi;subst hi;rfl
 | i+4,hi=>simp at hi
theorem xCV (b:Bdy) (bh:BH) (w:World) (H:BdAt w b bh):
 Calls Tryz.prog 69 #[.agg (bdC b bh).toArray] w fun e' w'=>e' = .returned (.int .i64 (declC b))/\Below w.heap.size w w':=by
 have HX:=aF (BxC.new w b bh);have HH:=aF H;have HB0:=aF (mG w b bh);have r1:=H.reg.le;have r2:=H.reg.big;have b1:=H.blk.le;have b2:=H.blk.big;have HID:=aF (fE b.name (bxW w b bh));unfold declC;obtain ⟨Q,hQ⟩:∃Q,(if isIdent b.name=false then 12 else if firstE [namesC b.regions,pairsC b.regions.length b.outl,typesC b.regions.length b.types,localsC b]=0 then (if b.blocks.length=0\/65535<b.blocks.length then 15 else 0) else firstE [namesC b.regions,pairsC b.regions.length b.outl,typesC b.regions.length b.types,localsC b])=Q:=⟨_,rfl⟩;rw [hQ];have HQ:=aF hQ;clear hQ H;cases hid:isIdent b.name
 ·rw [hid] at HID HQ;have HF:Hid (Q=12):=aF HQ.out.symm;clear hid HQ;unfold bdC;go_enter Tryz.func69,Tryz.ntmps69
  go_wp2_with (go_at_call 108;refine HID.out.mono ?_;rintro e' w1 ⟨rfl,hb1⟩)
  go_ret;exact ⟨by rw [HF.out];rfl,HB0.out.trans (hb1.mono HB0.out.size)⟩
 rw [hid] at HID HQ;have HQ':Hid (Q=if firstE [namesC b.regions,pairsC b.regions.length b.outl,typesC b.regions.length b.types,localsC b]=0 then (if b.blocks.length=0\/65535<b.blocks.length then 15 else 0) else firstE [namesC b.regions,pairsC b.regions.length b.outl,typesC b.regions.length b.types,localsC b]):=aF HQ.out.symm;clear hid HQ;have HN:=aF (fun W (hb:Below w.heap.size w W)=>yH b.regions bh.A1 bh.c1 W (HH.out.keep hb).reg);have HP:=aF (fun W (hb:Below w.heap.size w W)=>mZ b.outl b.regions.length bh.A2 bh.c2 W (HH.out.keep hb).out);have HT:=aF (fun W (hb:Below w.heap.size w W)=>uM b.types b.regions.length bh.A3 bh.c3 W (HH.out.keep hb).typ);have HL:=aF (fun W (hb:Below w.heap.size w W)=>vR b bh W (HH.out.keep hb));generalize namesC b.regions=E1 at HN HQ';generalize pairsC b.regions.length b.outl=E2 at HP HQ';generalize typesC b.regions.length b.types=E3 at HT HQ';generalize localsC b=E4 at HL HQ';have HFI:=aF (fP [E1,E2,E3,E4]);generalize firstE [E1,E2,E3,E4]=E at HFI HQ';unfold bdC at HL ⊢;go_enter Tryz.func69,Tryz.ntmps69
 go_wp2_with (go_at_call 108;refine HID.out.mono ?_;rintro e' w1 ⟨rfl,hb1⟩;have x1:=HX.out.keep hb1 1 _ rfl)
 have hX1:BxC w1.drew w.heap.size b bh:=(HX.out.keep hb1).keep ((aX _ _).drew);have hB1:Below w.heap.size w w1.drew:=(HB0.out.trans (hb1.mono HB0.out.size)).drew;have HB1:=aF hB1;have hS:=hX1;clear hX1 hB1 hb1;refine cO (S:=fun X=>BxC X w.heap.size b bh) [0,1,3,4,5,7,8,9,11,2,6,10,12,13,14,15] (by kernel_rfl) ?_;(iterate 9 (refine cP (v:=?_) ?_ hS ?_;rotate_left;(next=>(rintro X hX;obtain ⟨s0,s1,s2,s3,s4,s5,s6⟩:=aS hX;(try simp only [aI]);go_simp;rfl));simp only [aM]));(refine cS (fun K1 hK1=>?_);simp only [aM];rw [bA (by rfl)];go_simp);refine (HN.out _ HB1.out).mono ?_;rintro e' w2 ⟨rfl,hb⟩;replace hS:=hS.keep hb;have HB2:=aF (HB1.out.trans (hb.mono HB1.out.size));clear hb HB1;refine hK1.out _ _ (fun _=>hS) ?_;clear HN;(refine cS (fun K1 hK1=>?_);simp only [aM];rw [bA (by rfl)];go_simp);refine (HP.out _ HB2.out).mono ?_;rintro e' w3 ⟨rfl,hb⟩;replace hS:=hS.keep hb;have HB3:=aF (HB2.out.trans (hb.mono HB2.out.size));clear hb HB2;refine hK1.out _ _ (fun _=>hS) ?_;clear HP;(refine cS (fun K1 hK1=>?_);simp only [aM];rw [bA (by rfl)];go_simp);refine (HT.out _ HB3.out).mono ?_;rintro e' w4 ⟨rfl,hb⟩;replace hS:=hS.keep hb;have HB4:=aF (HB3.out.trans (hb.mono HB3.out.size));clear hb HB3;refine hK1.out _ _ (fun _=>hS) ?_;clear HT;(refine cS (fun K1 hK1=>?_);simp only [aM];rw [bA (by rfl)];go_simp);refine (HL.out _ HB4.out).mono ?_;rintro e' w5 ⟨rfl,hb⟩;replace hS:=hS.keep hb;have HB5:=aF (HB4.out.trans (hb.mono HB4.out.size));clear hb HB4;refine hK1.out _ _ (fun _=>hS) ?_;clear HL;(refine cS (fun K1 hK1=>?_);simp only [aM];rw [bA (by rfl)];go_simp);have HNW:=aF (xCS w5 E1 E2 E3 E4 31 _ rfl);have hbn:Below w5.heap.size w5 (w5.alloc (.cells #[.int .i64 E1,.int .i64 E2,.int .i64 E3,.int .i64 E4] 31)):=(aX _ _).alloc (aY _) _;replace hS:=hS.keep hbn;have HB6:=aF (HB5.out.trans (hbn.mono HB5.out.size));clear hbn;refine hK1.out _ _ (fun _=>hS) ?_;(refine cS (fun K1 hK1=>?_);simp only [aM];rw [bA (by rfl)];go_simp);refine (HFI.out _ 4 _ HNW.out).mono ?_;rintro e' w6 ⟨rfl,hw⟩;obtain rfl:=hw.symm;refine hK1.out _ _ (fun _=>hS) ?_;((refine cP (v:=?_) ?_ hS ?_;rotate_left;(next=>(rintro X hX;have s0:=hX 0 _ rfl;(try simp only [aI]);go_simp;rfl));simp only [aM]))
 refine cZ ?_;have x6:=hS 6 _ rfl;clear hS HH HX HB0 HNW;by_cases he:E=0
 ·have HF:Hid (Q=if b.blocks.length=0\/65535<b.blocks.length then 15 else 0):=aF (by rw [HQ'.out,bA he]);subst he;clear HQ';obtain ⟨m,hm⟩:∃m,b.blocks.length=m:=⟨_,rfl⟩;rw [hm] at HF x6 b1;rw [hm];clear hm;by_cases hbl:m=0\/65535<m
  ·rw [bA hbl] at HF;rcases hbl with rfl | hbl
   ·go_wp2_with fail
    go_ret;exact ⟨by rw [HF.out];rfl,HB6.out⟩
   ·have e1:((m:Int) == 0)=false:=by simp;omega
    go_wp2_with fail
    go_ret;exact ⟨by rw [HF.out];rfl,HB6.out⟩
  ·rw [aZ hbl] at HF;have e1:((m:Int) == 0)=false:=by simp;omega
   have e2:¬(65535:Int)<m:=by omega
   clear hbl;go_wp2_with fail
   go_ret;exact ⟨by rw [HF.out];rfl,HB6.out⟩
 ·have HF:Hid (Q=E):=aF (by rw [HQ'.out,aZ he]);have e1:(E != 0)=true:=by simp [he]
  clear HQ';go_wp2_with fail
  go_ret;exact ⟨by rw [HF.out];rfl,HB6.out⟩
end
section
open Go.RowKit
abbrev bl (n:ByteArray):List UInt8:=n.data.toList
def nmP (ls:List Lc) (i:Int):List UInt8:=((ls[i.toNat]?).map (fun l=>bl l.name)).getD []
def rgP (rs:List ByteArray) (i:Int):List UInt8:=((rs[i.toNat]?).map bl).getD []
def pjP (x:Pj):List UInt8:=if x.kind=0 then [46,42] else 46 :: Lib.itoa x.field
def pjsP (ps:List Pj):List UInt8:=ps.flatMap pjP
def placeP (ls:List Lc) (p:Plc):List UInt8:=37 :: (nmP ls p.loc ++ pjsP p.proj)
def boolP (b:Bool):List UInt8:=if b then [116,114,117,101] else [102,97,108,115,101]
def unitP:List UInt8:=[117,110,105,116]
def opdP (ls:List Lc) (o:Opd):List UInt8:=
 if o.kind=0 then [99,111,112,121,32] ++ placeP ls o.place
 else if o.kind=1 then [109,111,118,101,32] ++ placeP ls o.place
 else if o.kind=2 then Lib.itoa o.n
 else if o.kind=3 then boolP (o.n=1)
 else unitP
def comP (l:List (List UInt8)):List UInt8:=Lib.join l [44,32]
def opsP (ls:List Lc) (l:List Opd):List UInt8:=comP (l.map (opdP ls))
def refP (rs:List ByteArray) (r:Int) (mu:Bool) (tt:List UInt8):List UInt8:=[38,39] ++ rgP rs r ++ [32] ++ (if mu then [109,117,116,32] else []) ++ tt
def idxP (c:UInt8) (n:Int):List UInt8:=c :: Lib.itoa n
def typeP (rs:List ByteArray) (t:Ty):List UInt8:=
 if t.kind=0 then unitP
 else if t.kind=1 then [98,111,111,108]
 else if t.kind=2 then [105,110,116]
 else if t.kind=3 then refP rs t.reg t.mu (idxP 35 t.elem)
 else 40 :: (comP (t.flds.map (idxP 35)) ++ [41])
def unaP (op:Int):List UInt8:=if op=0 then [110,101,103] else [110,111,116]
def binP (op:Int):List UInt8:=
 if op=0 then [97,100,100] else if op=1 then [115,117,98] else if op=2 then [109,117,108]
 else if op=3 then [101,113] else if op=4 then [108,116] else [97,110,100]
def rvP (ls:List Lc) (rs:List ByteArray) (r:Rvl):List UInt8:=
 if r.kind=1 then refP rs r.reg r.mu (placeP ls r.place)
 else if r.kind=2 then unaP r.op ++ [32] ++ opsP ls r.args
 else if r.kind=3 then binP r.op ++ [32] ++ opsP ls r.args
 else if r.kind=4 then 40 :: (opsP ls r.args ++ [41])
 else opsP ls r.args
def stmtP (ls:List Lc) (rs:List ByteArray) (s:Stm):List UInt8:=
 if s.kind=0 then placeP ls s.place ++ [32,61,32] ++ rvP ls rs s.rv
 else if s.kind=1 then [100,101,97,100,32,37] ++ nmP ls s.loc
 else [110,111,112]
def tgP (l:List Int) (i:Nat):List UInt8:=idxP 94 (l.getD i 0)
def termP (ls:List Lc) (t:Trm):List UInt8:=
 if t.kind=0 then [103,111,116,111,32] ++ tgP t.targets 0
 else if t.kind=1 then [105,102,32] ++ opsP ls t.args ++ [32] ++ tgP t.targets 0 ++ [32,101,108,115,101,32] ++ tgP t.targets 1
 else if t.kind=2 then [114,101,116,117,114,110]
 else if t.kind=3 then placeP ls t.place ++ [32,61,32,99,97,108,108,32,64] ++ bl t.name ++ [40] ++ opsP ls t.args ++ [41,32] ++ tgP t.targets 0
 else if t.kind=4 then [100,114,111,112,32] ++ placeP ls t.place ++ [32] ++ tgP t.targets 0
 else [117,110,114,101,97,99,104,97,98,108,101]
def semP:List UInt8:=[59,10]
def regsP (rs:List ByteArray):List UInt8:=if rs=[] then [] else [32,32,114,101,103,105,111,110,115,32] ++ comP (rs.map (fun r=>39 :: bl r)) ++ semP
def outP (rs:List ByteArray) (x:Int × Int):List UInt8:=39 :: (rgP rs x.1 ++ [32,39] ++ rgP rs x.2)
def outsP (rs:List ByteArray) (l:List (Int × Int)):List UInt8:=if l=[] then [] else [32,32,111,117,116,108,105,118,101,115,32] ++ comP (l.map (outP rs)) ++ semP
def gU (rs:List ByteArray) (i:Nat) (t:Ty):List UInt8:=[32,32,116,121,112,101,32] ++ idxP 35 i ++ [32,61,32] ++ typeP rs t ++ semP
def wordP (arg:Bool):List UInt8:=if arg then [97,114,103] else [108,101,116]
def lcLine (args:Int) (i:Nat) (l:Lc):List UInt8:=[32,32] ++ wordP ((i:Int)<args) ++ [32,37] ++ bl l.name ++ [58,32] ++ idxP 35 l.type ++ semP
def dO (ls:List Lc) (rs:List ByteArray) (s:Stm):List UInt8:=[32,32,32,32] ++ stmtP ls rs s ++ semP
def fH (ls:List Lc) (rs:List ByteArray) (i:Nat) (b:Blk):List UInt8:=
 [32,32] ++ idxP 94 i ++ [58,32,123,10] ++ b.stmts.flatMap (dO ls rs) ++ ([32,32,32,32] ++ termP ls b.term ++ semP) ++ [32,32,125,10]
def numP {α : Type} (f:Nat-> α -> List UInt8):Nat->List α -> List UInt8
 | _,[]=>[]
 | i,x :: xs=>f i x ++ numP f (i+1) xs
theorem dR {α : Type} (f:Nat-> α -> List UInt8) (i:Nat) (x : α) (xs:List α):numP f i (x :: xs)=f i x ++ numP f (i+1) xs:=rfl
def headP (w:List UInt8) (b:Bdy):List UInt8:=w ++ [32,64] ++ bl b.name ++ [32,123,10]
def printP (b:Bdy):List UInt8:=
 headP [98,111,100,121] b ++ regsP b.regions ++ outsP b.regions b.outl ++ numP (gU b.regions) 0 b.types ++ numP (lcLine b.args) 0 b.locals ++
  numP (fH b.locals b.regions) 0 b.blocks ++ [125,10]
def okI (n:Nat) (i:Int):Prop:=0<=i/\i<n
abbrev tx (l:List UInt8):Value:= .string ⟨l.toArray⟩
theorem mI (b:ByteArray):b=⟨(bl b).toArray⟩:=by cases b;rfl
theorem mJ (a b:List UInt8):(⟨a.toArray⟩:ByteArray) ++ ⟨b.toArray⟩=⟨(a ++ b).toArray⟩:=by
 apply ByteArray.ext
 simp
theorem ba_app' (a b:ByteArray):a ++ b=⟨(bl a ++ bl b).toArray⟩:=by
 conv=>lhs;rw [mI a,mI b]
 exact mJ _ _
end
section
open Go Go.RowKit
structure Ln where
 reg:Int
 pt:Int
 mu:Bool
 place:Plc
 deriving DecidableEq
structure Fct where
 loans:List Ln
 edges:List (Int × Int)
 killed:List (Int × Int)
 inval:List (Int × Int)
 live:List (Int × Int)
 deriving DecidableEq
def RLn:Rd Ln:=fun w B b o x=>w.cell? ⟨b,o,none⟩=some (.int .i64 x.reg)/\w.cell? ⟨b,o+1,none⟩=some (.int .i64 x.pt)/\w.cell? ⟨b,o+2,none⟩=some (.bool x.mu)/\RPl w B b (o+3) x.place
theorem RLn.keeps:RLn.Keeps:=fun w w' B B' b o _x hB hlt hb ⟨h0,h1,h2,h3⟩=>
 ⟨(hb.cell (p:=⟨b,o,none⟩) hlt).trans h0,(hb.cell (p:=⟨b,o+1,none⟩) hlt).trans h1,(hb.cell (p:=⟨b,o+2,none⟩) hlt).trans h2,RPl.keeps w w' B B' b _ _ hB hlt hb h3⟩
structure FH where
 A0:Option Addr
 c0:Nat
 A1:Option Addr
 c1:Nat
 A2:Option Addr
 c2:Nat
 A3:Option Addr
 c3:Nat
 A4:Option Addr
 c4:Nat
def fcC (f:Fct) (h:FH):List Value:=[.slice h.A0 f.loans.length h.c0,.slice h.A1 f.edges.length h.c1,.slice h.A2 f.killed.length h.c2,.slice h.A3 f.inval.length h.c3,.slice h.A4 f.live.length h.c4]
structure FcAt (w:World) (f:Fct) (h:FH):Prop where
 ln:Slc 5 RLn w h.A0 h.c0 f.loans
 ed:Slc 2 RPr w h.A1 h.c1 f.edges
 ki:Slc 2 RPr w h.A2 h.c2 f.killed
 iv:Slc 2 RPr w h.A3 h.c3 f.inval
 li:Slc 2 RPr w h.A4 h.c4 f.live
theorem FcAt.keep {w w':World} {f:Fct} {h:FH} (H:FcAt w f h) (hb:Below w.heap.size w w'):FcAt w' f h:=
 ⟨H.ln.keep RLn.keeps hb,H.ed.keep RPr.keeps hb,H.ki.keep RPr.keeps hb,H.iv.keep RPr.keeps hb,H.li.keep RPr.keeps hb⟩
def loE (p r:Int) (q:Option Ln) (l:Ln):Int:=
 if l.reg<0\/r<=l.reg\/l.pt<0\/p<=l.pt then 3
 else if chk l.place.loc l.place.proj≠0 then chk l.place.loc l.place.proj
 else match q with
  | none=>0
  | some k=>if l.pt<=k.pt then 21 else 0
def losE (p r:Int):Option Ln->List Ln->Int
 | _,[]=>0
 | q,l :: xs=>if loE p r q l=0 then losE p r (some l) xs else loE p r q l
def prE (f s:Int) (q:Option (Int × Int)) (x:Int × Int):Int:=
 if x.1<0\/f<=x.1\/x.2<0\/s<=x.2 then 3
 else match q with
  | none=>0
  | some k=>if 0<=cmp2 k x then 21 else 0
def prsE (f s:Int):Option (Int × Int)->List (Int × Int)->Int
 | _,[]=>0
 | q,x :: xs=>if prE f s q x=0 then prsE f s (some x) xs else prE f s q x
structure Tb where
 A:Option Addr
 xs:List (Int × Int)
 c:Nat
 f:Int
 s:Int
def tbE:List Tb->Int
 | []=>0
 | t :: ts=>if prsE t.f t.s none t.xs=0 then tbE ts else prsE t.f t.s none t.xs
def tbsOf (f:Fct) (h:FH) (p r:Int):List Tb:=[⟨h.A1,f.edges,h.c1,p,p⟩,⟨h.A2,f.killed,h.c2,f.loans.length,p⟩,⟨h.A3,f.inval,h.c3,f.loans.length,p⟩,⟨h.A4,f.live,h.c4,r,p⟩]
def fcBig (f:Fct):Prop:=16777216<f.loans.length\/16777216<f.edges.length\/16777216<f.killed.length\/16777216<f.inval.length\/16777216<f.live.length
instance (f:Fct):Decidable (fcBig f):=by unfold fcBig;exact inferInstance
def fctE (f:Fct) (p r:Int):Int:=
 if fcBig f then 15
 else if losE p r none f.loans≠0 then losE p r none f.loans
 else if prsE p p none f.edges≠0 then prsE p p none f.edges
 else if prsE f.loans.length p none f.killed≠0 then prsE f.loans.length p none f.killed
 else if prsE f.loans.length p none f.inval≠0 then prsE f.loans.length p none f.inval
 else prsE r p none f.live
theorem xGC {f:Fct} {h:FH} {p r:Int} (hb:¬fcBig f) (hl:losE p r none f.loans=0):fctE f p r=tbE (tbsOf f h p r):=by
 unfold fctE tbsOf tbE tbE tbE tbE tbE;rw [aZ hb,aZ (fun e=>e hl)];simp only [ite_not];split
 ·split
  ·split
   ·split
    ·assumption
    ·rfl
   ·rfl
  ·rfl
 ·rfl
theorem qE (p r:Int) (q:Option Ln) (l:Ln) (xs:List Ln):losE p r q (l :: xs)=if loE p r q l=0 then losE p r (some l) xs else loE p r q l:=rfl
theorem pT (f s:Int) (q:Option (Int × Int)) (x:Int × Int) (xs:List (Int × Int)):prsE f s q (x :: xs)=if prE f s q x=0 then prsE f s (some x) xs else prE f s q x:=rfl
theorem qF {p r:Int} {q:Option Ln} {l:Ln} (h:l.reg<0\/r<=l.reg\/l.pt<0\/p<=l.pt):loE p r q l=3:=by unfold loE;rw [bA h]
theorem xFX {p r:Int} {q:Option Ln} {l:Ln} (h:¬(l.reg<0\/r<=l.reg\/l.pt<0\/p<=l.pt)) (h2:chk l.place.loc l.place.proj≠0):loE p r q l=chk l.place.loc l.place.proj:=by unfold loE;rw [aZ h,bA h2]
theorem xCO {p r:Int} {l:Ln} (h:¬(l.reg<0\/r<=l.reg\/l.pt<0\/p<=l.pt)) (h2:chk l.place.loc l.place.proj=0):loE p r none l=0:=by unfold loE;rw [aZ h,aZ (fun e=>e h2)]
theorem xCN {p r:Int} {k l:Ln} (h:¬(l.reg<0\/r<=l.reg\/l.pt<0\/p<=l.pt)) (h2:chk l.place.loc l.place.proj=0):loE p r (some k) l=if l.pt<=k.pt then 21 else 0:=by unfold loE;rw [aZ h,aZ (fun e=>e h2)]
theorem pV {f s:Int} {q:Option (Int × Int)} {x:Int × Int} (h:x.1<0\/f<=x.1\/x.2<0\/s<=x.2):prE f s q x=3:=by unfold prE;rw [bA h]
theorem xCF {f s:Int} {x:Int × Int} (h:¬(x.1<0\/f<=x.1\/x.2<0\/s<=x.2)):prE f s none x=0:=by unfold prE;rw [aZ h]
theorem xCE {f s:Int} {k x:Int × Int} (h:¬(x.1<0\/f<=x.1\/x.2<0\/s<=x.2)):prE f s (some k) x=if 0<=cmp2 k x then 21 else 0:=by unfold prE;rw [aZ h]
def prevL {α : Type} (l:List α) (k:Nat):Option α := if k=0 then none else l[k - 1]?
end
section
open Go Go.RowKit Go.Maps
theorem GI.but {w w':World} {base rel c lo:Nat} {M:Bool->Nat} {n:Int} {L:Bool->Int->List Int} {F:Bool->Int->Value} (h:GI w base rel M c n L F) (hr:lo<=rel) (hm:∀s,lo<=M s) (hk:∀k,lo<=k->k<w.heap.size->w'.heap[k]?=w.heap[k]?) (hs:w.heap.size<=w'.heap.size):GI w' base rel M c n L F:=
 ⟨(hk _ hr (Array.getElem?_eq_some_iff.1 h.head).1).trans h.head,fun s=>(h.maps s).block (hk _ (hm s) (h.maps s).lt),fun s x=>dZ (h.rows s x) (fun k h1 h2 _=>hk k (by have:=h.lrel;omega) h2),h.apart,h.lrel,h.lmap,h.ne1,h.ne2,bZ h.low hs⟩
def newP2 (n:Int) (pairs:List (Int × Int)) (w:World) (e':Ending) (w':World):Prop:=∃r0 M c F base,e' = .returned (.tuple #[.pointer (some ⟨r0,0,none⟩),.int .i64 0])/\GI w' base r0 M c n (relL pairs) F/\w.heap.size<=r0/\(∀s,w.heap.size<=M s)/\Below w.heap.size w w'
theorem xFW (l:List (Int × Int)) (n:Int) (A:Option Addr) (c:Nat) (w:World) (hs:Slc 2 RPr w A c l) (hok:pairsC n l=0) (hn:n<=4611686018427387904):
 Calls Tryz.prog 114 #[.slice A l.length c,.int .i64 n] w (newP2 n l w):=by
 obtain ⟨hlen,hall⟩:=nA hok;have hle:=hs.le;have hbig:=hs.big;have HCH:=aF (mZ l n A c w hs);rw [hok] at HCH;have HS:=aF hs;have HALL:=aF hall;clear hs hall hok;obtain ⟨i0,hi,hz0,hz1,hz2⟩:=info_parts dW;have hmm:= @run_makeMap Tryz.prog;go_enter Tryz.func114,Tryz.ntmps114
 go_wp2_with (go_at_call 111;refine HCH.out.mono ?_;rintro e' w1 ⟨rfl,hb1⟩;have HB1:=aF hb1;clear hb1)
 have HG0:Hid (GI (((w1.alloc (.map #[] 0)).alloc (.map #[] 0)).alloc (.cells #[.int .i64 n,.map (some w1.heap.size),.map (some (w1.heap.size+1))] 209)) (w1.heap.size+3) (w1.heap.size+2) (mapsAt w1.heap.size) 0 n (relL []) (fun _ _=>nilS)):=aF (by
  have b1:Below (w1.alloc (.map #[] 0)).heap.size (w1.alloc (.map #[] 0)) ((w1.alloc (.map #[] 0)).alloc (.map #[] 0)):=(aX _ _).alloc (aY _) _;have b2:Below ((w1.alloc (.map #[] 0)).alloc (.map #[] 0)).heap.size ((w1.alloc (.map #[] 0)).alloc (.map #[] 0)) (((w1.alloc (.map #[] 0)).alloc (.map #[] 0)).alloc (.cells #[.int .i64 n,.map (some w1.heap.size),.map (some (w1.heap.size+1))] 209)):=(aX _ _).alloc (aY _) _;have hnil:mapF (fun _=>nilS)=fun _=>nilS:=by funext x;cases x <;> (try rfl);rename_i q _;cases q <;> rfl
  refine ⟨?_,?_,fun s x=>?_,fun s x s' x' g h=>(by cases h),(by omega),fun s=>(by cases s <;> simp [mapsAt]),fun s=>(by cases s <;> simp [mapsAt]),(by simp [mapsAt]),(by simp)⟩
  ·exact uG _ _ _ (by simp)
  ·intro s;rw [hnil];cases s
   ·exact (OwnV.made w1 _ _ _).block ((b2.block _ (by simp;omega)).trans (b1.block _ (by simp)))
   ·have:=OwnV.made (w1.alloc (.map #[] 0)) Tryz.prog 3 nilS;simp only [bI] at this;exact this.block (b2.block _ (by simp))
  ·have:relL [] s x=[]:=by cases s <;> rfl
   rw [this]
   exact World.ownsRow_nil _ _ _ _)
 go_loopw [23] (fun v wr=>∃(k:Nat) (F:Bool->Int->Value),k<=l.length/\v = .int .i64 k/\Hid (GI wr (w1.heap.size+3) (w1.heap.size+2) (mapsAt w1.heap.size) (2 * k) n (relL (l.take k)) F)/\Hid (Below w1.heap.size w1 wr)) (fun v _=>l.length - (intOf v).toNat)
 case atStart=>exact ⟨0,_,by omega,rfl,HG0,aF ((((aX _ _).alloc (aY _) _).alloc (by simp) _).alloc (by simp;omega) _)⟩
 case round=>
  clear HG0;obtain ⟨k,F,hk,rfl,HG,hB⟩:=hrel;by_cases hlt:k<l.length
  ·obtain ⟨b,o,rfl,hb,hx⟩:=(HS.out.keep RPr.keeps (HB1.out.trans (hB.out.mono HB1.out.size))).sl.at_ hlt;have HTK:Hid (relL (l.take (k+1))=updL (updL (relL (l.take k)) false l[k].1 (relL (l.take k) false l[k].1 ++ [l[k].2])) true l[k].2 (relL (l.take k) true l[k].2 ++ [l[k].1])):=aF (by rw [bF hlt,xQ]);have hpp:=HALL.out l[k] (bN hlt);have HL1:=aF (nX (l.take k) false l[k].1);have HL2:=aF (nX (l.take k) true l[k].2);rw [List.length_take] at HL1 HL2;obtain ⟨p,hp⟩:∃p,l[k]=p:=⟨_,rfl⟩;rw [hp] at hx HTK hpp HL1 HL2;obtain ⟨p1,p2⟩:=p;obtain ⟨x0,x1⟩:=hx;simp only at x0 x1 hpp HTK HL1 HL2;clear hp;generalize relL (l.take k)=L at HG HTK HL1 HL2;have key1:=key3 (a:=p1) (by omega) (by omega);have key2:=key3 (a:=p2) (by omega) (by omega);obtain ⟨W,hW⟩:∃W,wr.alloc (.cells #[.int .i64 p1,.int .i64 p2] 77)=W:=⟨_,rfl⟩;have hbw:Below wr.heap.size wr W:=by rw [<- hW];exact (aX _ _).alloc (aY _) _
   have hWs:W.heap.size=wr.heap.size+1:=by rw [<- hW];simp
   have hP1:W.heap[wr.heap.size]?=some (.cells #[.int .i64 p1,.int .i64 p2] 77):=by rw [<- hW];exact Array.getElem?_push_size
   have HGW:=aF (HG.out.keep hbw);have HWS:=aF hWs;have HROW:=aF (fun s x k (hk:(F s x).ownBlock=some k)=>((HG.out.rows s x).lt k hk).2);have hB1:Below w1.heap.size w1 W:=hB.out.trans (hbw.mono hB.out.size);have hlo:=HG.out.low;clear HG hbw;go_wp2_with fail
   try rw [hW]
   have hrow1:∀k,(F false p1).ownBlock=some k->k<wr.heap.size:=HROW.out false p1;obtain ⟨r0,r1,r2⟩:=kY HGW.out.head;obtain ⟨p0,p1'⟩:=wQ hP1;have hmap:=HGW.out.maps false;have hlook:∀X:World,X.heap[mapsAt w1.heap.size false]?=W.heap[mapsAt w1.heap.size false]?->(Instr.lookup 207 (.map (some (mapsAt w1.heap.size false))) (.int .i64 p1) false).run Tryz.prog X = .ok (F false p1) X:=fun X q=>(hmap.block q).look law3 Tryz.underlying207 (wH X) key1
   have hS:W.drew.heap[w1.heap.size+2]?=W.heap[w1.heap.size+2]?/\W.drew.heap[mapsAt w1.heap.size false]?=W.heap[mapsAt w1.heap.size false]?/\W.drew.heap[wr.heap.size]?=W.heap[wr.heap.size]?:=⟨rfl,rfl,rfl⟩;refine dT (S:=fun X=>X.heap[w1.heap.size+2]?=W.heap[w1.heap.size+2]?/\X.heap[mapsAt w1.heap.size false]?=W.heap[mapsAt w1.heap.size false]?/\X.heap[wr.heap.size]?=W.heap[wr.heap.size]?) 17 [0,1,2,3,4,5,6,7,8,9,10,11,12,13,14,15,16,17] (by kernel_rfl) ?_;(iterate 15 (refine cP (v:=?_) ?_ hS ?_;rotate_left;(next=>(rintro X ⟨q1,q2,q3⟩;have s1:=(cell_of_heap q1 1).trans r1;have s2:=(cell_of_heap q1 2).trans r2;have s3:=(cell_of_heap q3 0).trans p0;have s4:=(cell_of_heap q3 1).trans p1';have e0:=hlook X q2;(try simp only [aI]);go_simp;rfl));simp only [aM]));(refine cS (fun K1 hK1=>?_);simp only [aM];rw [bA (by rfl)];go_simp);obtain ⟨W1,hW1⟩:∃X,(W.alloc (.cells #[.int .i64 p2] 3)).drew=X:=⟨_,rfl⟩;have hbW1:Below W.heap.size W W1:=by rw [<- hW1];exact ((aX _ _).alloc (aY _) _).drew
   have hnews:∀j u,[Value.int .i64 p2][j]?=some u->W1.cell? ((⟨W.heap.size,0,none⟩:Addr).add j)=some u:=by rw [<- hW1];exact fun j u hj=>eD W _ _ _ rfl j u hj
   have hlz1:wr.heap.size<W.heap.size:=by omega
   have hm1:mapsAt w1.heap.size false<wr.heap.size:=by simp [mapsAt];omega
   try rw [hW1]
   refine hK1.out _ _ (fun _=>⟨hbW1.block _ (by omega),hbW1.block _ (by omega),hbW1.block _ hlz1⟩) ?_;(refine cS (fun K1 hK1=>?_);simp only [aM];rw [bA (by rfl)]);refine gK (.tmp 39) (.tmp 42) 58 rfl (w1.heap.size+3) 3 i0 (.int .i64 0) 1 8 Tryz.underlying58 hi hz0 hz1 hz2 rfl (by decide) (F false p1) _ _ rfl ((HGW.out.keep hbW1).rows false p1) ⟨W.heap.size,0,none⟩ 1 1 [.int .i64 p2] (by rw [HWS.out];rfl) rfl hnews (ints_oneCell .i64 [p2]) (by have:=HL1.out;unfold maxLen;omega) (by have:=HL1.out;omega) (by have:=hbW1.size;omega) ?_;intro v1 W2 hown1 hgrow1 hloc1;have hk1:∀k,k<W.heap.size->some k≠(F false p1).ownBlock->W2.heap[k]?=W.heap[k]?:=fun k hk hr=>(hgrow1.block k (bO hk hbW1.size) hr).trans (hbW1.block k hk)
   have hlow1:∀k,k<w1.heap.size+3->some k≠(F false p1).ownBlock:=fun k hk e=>by have:=((HGW.out.rows false p1).lt k e.symm).1;omega
   have hpb1:W2.heap[wr.heap.size]?=W.heap[wr.heap.size]?:=hk1 _ hlz1 (fun e=>by have:=hrow1 _ e.symm;omega);have hmb1:W2.heap[mapsAt w1.heap.size false]?=W.heap[mapsAt w1.heap.size false]?:=hk1 _ (by omega) (hlow1 _ (by simp [mapsAt]));refine hK1.out _ _ (fun _=>⟨hk1 _ (by omega) (hlow1 _ (by omega)),hmb1,hpb1⟩) ?_;(refine cS (fun K1 hK1=>?_);simp only [aM];rw [bA (by rfl)]);obtain ⟨W2',hrun1,hmp1,hg1⟩:=(hmap.block hmb1).store law3 Tryz.underlying207 (by unfold maxLen;omega) key1 trivial v1 (f':=mapF (updF F false p1 v1 false)) (by simp [mapF,updF]) (tN (fun y hy=>by simp [updF,hy]));refine oZ (.tmp 30) (.tmp 32) (.tmp 43) 207 rfl rfl rfl rfl hrun1 ?_;refine hK1.out _ _ (fun h=>absurd h (by decide)) ?_;refine cZ ?_;have HG2:=aF ((HGW.out.keep hbW1).step false p1 p2 v1 hown1 hgrow1 hloc1 hmp1 hg1);have hP2:W2'.heap[wr.heap.size]?=some (.cells #[.int .i64 p1,.int .i64 p2] 77):=((hg1.block _ (bO hlz1 (bZ hbW1.size hgrow1.size)) (by simp;omega)).trans hpb1).trans hP1
   have hB2:Below w1.heap.size w1 W2':=by
    have ha:Below w1.heap.size w1 W1:=hB1.trans (hbW1.mono hB1.size);have hc:=ha.grown hgrow1 ha.size (fun k hk=>by have:=((HGW.out.rows false p1).lt k hk).1;omega);exact hc.grown hg1 hc.size (fun k hk=>by injection hk with hk;subst hk;simp [mapsAt])
   have hlt2:wr.heap.size<W2'.heap.size:=bO hlz1 (bZ hbW1.size (bZ hgrow1.size hg1.size));clear hS hlook hmap r0 r1 r2 p0 p1' hnews hown1 hgrow1 hloc1 hmp1 hg1 hrun1 hk1 hlow1 hpb1 hmb1 hbW1 hK1;go_wp2_with fail
   have HL2':Hid ((updL L false p1 (L false p1 ++ [p2]) true p2).length<=min k l.length):=aF (by simp only [updL,Bool.true_eq_false,false_and,if_false];exact HL2.out);have hrow2:∀k,((updF F false p1 v1) true p2).ownBlock=some k->k<wr.heap.size:=HROW.out true p2;obtain ⟨r0,r1,r2⟩:=kY HG2.out.head;obtain ⟨p0,p1'⟩:=wQ hP2;have hmap:=HG2.out.maps true;have hlook:∀X:World,X.heap[mapsAt w1.heap.size true]?=W2'.heap[mapsAt w1.heap.size true]?->(Instr.lookup 207 (.map (some (mapsAt w1.heap.size true))) (.int .i64 p2) false).run Tryz.prog X = .ok ((updF F false p1 v1) true p2) X:=fun X q=>(hmap.block q).look law3 Tryz.underlying207 (wH X) key2
   have hS:W2'.drew.heap[w1.heap.size+2]?=W2'.heap[w1.heap.size+2]?/\W2'.drew.heap[mapsAt w1.heap.size true]?=W2'.heap[mapsAt w1.heap.size true]?/\W2'.drew.heap[wr.heap.size]?=W2'.heap[wr.heap.size]?:=⟨rfl,rfl,rfl⟩;refine dT (S:=fun X=>X.heap[w1.heap.size+2]?=W2'.heap[w1.heap.size+2]?/\X.heap[mapsAt w1.heap.size true]?=W2'.heap[mapsAt w1.heap.size true]?/\X.heap[wr.heap.size]?=W2'.heap[wr.heap.size]?) 17 [0,1,2,3,4,5,6,7,8,9,10,11,12,13,14,15,16,17] (by kernel_rfl) ?_;(iterate 15 (refine cP (v:=?_) ?_ hS ?_;rotate_left;(next=>(rintro X ⟨q1,q2,q3⟩;have s1:=(cell_of_heap q1 1).trans r1;have s2:=(cell_of_heap q1 2).trans r2;have s3:=(cell_of_heap q3 0).trans p0;have s4:=(cell_of_heap q3 1).trans p1';have e0:=hlook X q2;(try simp only [aI]);go_simp;rfl));simp only [aM]));(refine cS (fun K1 hK1=>?_);simp only [aM];rw [bA (by rfl)];go_simp);obtain ⟨W3,hW3⟩:∃X,(W2'.alloc (.cells #[.int .i64 p1] 3)).drew=X:=⟨_,rfl⟩;have hbW3:Below W2'.heap.size W2' W3:=by rw [<- hW3];exact ((aX _ _).alloc (aY _) _).drew
   have hnews:∀j u,[Value.int .i64 p1][j]?=some u->W3.cell? ((⟨W2'.heap.size,0,none⟩:Addr).add j)=some u:=by rw [<- hW3];exact fun j u hj=>eD W2' _ _ _ rfl j u hj
   have hlz2:wr.heap.size<W2'.heap.size:=by exact hlt2
   have hm2:mapsAt w1.heap.size true<wr.heap.size:=by simp [mapsAt];omega
   try rw [hW3]
   refine hK1.out _ _ (fun _=>⟨hbW3.block _ (by omega),hbW3.block _ (by omega),hbW3.block _ hlz2⟩) ?_;(refine cS (fun K1 hK1=>?_);simp only [aM];rw [bA (by rfl)]);refine gK (.tmp 56) (.tmp 59) 58 rfl (w1.heap.size+3) 3 i0 (.int .i64 0) 1 8 Tryz.underlying58 hi hz0 hz1 hz2 rfl (by decide) ((updF F false p1 v1) true p2) _ _ rfl ((HG2.out.keep hbW3).rows true p2) ⟨W2'.heap.size,0,none⟩ 1 1 [.int .i64 p1] rfl rfl hnews (ints_oneCell .i64 [p1]) (by have:=HL2'.out;unfold maxLen;omega) (by have:=HL2'.out;omega) (by have:=hbW3.size;omega) ?_;intro v2 W4 hown2 hgrow2 hloc2;have hk2:∀k,k<W2'.heap.size->some k≠((updF F false p1 v1) true p2).ownBlock->W4.heap[k]?=W2'.heap[k]?:=fun k hk hr=>(hgrow2.block k (bO hk hbW3.size) hr).trans (hbW3.block k hk)
   have hlow2:∀k,k<w1.heap.size+3->some k≠((updF F false p1 v1) true p2).ownBlock:=fun k hk e=>by have:=((HG2.out.rows true p2).lt k e.symm).1;omega
   have hpb2:W4.heap[wr.heap.size]?=W2'.heap[wr.heap.size]?:=hk2 _ hlz2 (fun e=>by have:=hrow2 _ e.symm;omega);have hmb2:W4.heap[mapsAt w1.heap.size true]?=W2'.heap[mapsAt w1.heap.size true]?:=hk2 _ (by omega) (hlow2 _ (by simp [mapsAt]));refine hK1.out _ _ (fun _=>⟨hk2 _ (by omega) (hlow2 _ (by omega)),hmb2,hpb2⟩) ?_;(refine cS (fun K1 hK1=>?_);simp only [aM];rw [bA (by rfl)]);obtain ⟨W4',hrun2,hmp2,hg2⟩:=(hmap.block hmb2).store law3 Tryz.underlying207 (by unfold maxLen;omega) key2 trivial v2 (f':=mapF (updF (updF F false p1 v1) true p2 v2 true)) (by simp [mapF,updF]) (tN (fun y hy=>by simp [updF,hy]));refine oZ (.tmp 47) (.tmp 49) (.tmp 60) 207 rfl rfl rfl rfl hrun2 ?_;refine hK1.out _ _ (fun h=>absurd h (by decide)) ?_;refine cZ ?_;have HG3:=aF ((HG2.out.keep hbW3).step true p2 p1 v2 hown2 hgrow2 hloc2 hmp2 hg2);have hP3:W4'.heap[wr.heap.size]?=some (.cells #[.int .i64 p1,.int .i64 p2] 77):=((hg2.block _ (bO hlz2 (bZ hbW3.size hgrow2.size)) (by simp;omega)).trans hpb2).trans hP2
   have hB3:Below w1.heap.size w1 W4':=by
    have ha:Below w1.heap.size w1 W3:=hB2.trans (hbW3.mono hB2.size);have hc:=ha.grown hgrow2 ha.size (fun k hk=>by have:=((HG2.out.rows true p2).lt k hk).1;omega);exact hc.grown hg2 hc.size (fun k hk=>by injection hk with hk;subst hk;simp [mapsAt])
   have hlt2:wr.heap.size<W4'.heap.size:=bO hlz2 (bZ hbW3.size (bZ hgrow2.size hg2.size));clear hS hlook hmap r0 r1 r2 p0 p1' hnews hown2 hgrow2 hloc2 hmp2 hg2 hrun2 hk2 hlow2 hpb2 hmb2 hbW3 hK1;go_wp2_with fail
   have hLL:updL L false p1 (L false p1 ++ [p2]) true p2=L true p2:=by simp [updL]
   have hG3:=HG3.out;rw [hLL,<- HTK.out] at hG3;exact ⟨⟨k+1,_,by omega,by go_num,aF hG3,aF hB3⟩,by simp [intOf];omega⟩
  ·have hke:l.take k=l:=List.take_of_length_le (by omega);have HR:=HG;rw [hke] at HR;clear HG;go_wp2_with fail
   refine bodyPost_ret (v:= .tuple #[.pointer (some ⟨w1.heap.size+2,0,none⟩),.int .i64 0]) (by simp [results,Tryz.results114,go_sem] <;> rfl) rfl ⟨_,_,_,_,_,rfl,HR.out,by have:=HB1.out.size;omega,fun s=>by have:=HB1.out.size;cases s <;> simp [mapsAt] <;> omega,HB1.out.trans (hB.out.mono HB1.out.size)⟩
end
section
open Go.RowKit
theorem kV {u:Nat} (h:u<10):Lib.decDigits u=[UInt8.ofNat (48+u)]:=by rw [Lib.decDigits,dif_pos h]
theorem zV {u:Nat} (h:¬u<10):Lib.decDigits u=Lib.decDigits (u / 10) ++ [UInt8.ofNat (48+u % 10)]:=by rw [Lib.decDigits,dif_neg h]
end
end Go.Proofs.YtmknfbfppmkcfaaGreatDoor
