/-
  Parts of the proof: Memo V2 V3 V13 V15B HS.
-/
import Derived.Test.YtkaigkfbkpinlaaGreatDoorFP0
import Derived.Test.YtkaigkfbkpinlaaGreatDoorFP3
import Derived.Test.YtkaigkfbkpinlaaGreatDoorSh
import Derived.Test.YtkaigkfbkpinlaaGreatDoorFP4
import Derived.Test.YtkaigkfbkpinlaaGreatDoorSj
import Derived.WideKeyPair
import Derived.WideKeyArr
import Derived.Lib.TrimByte
import Derived.Sort.OwnSortedInts
import Derived.Lib.SlKeysI
namespace Go.Proofs.YtkaigkfbkpinlaaGreatDoor
set_option maxRecDepth 100000
set_option maxHeartbeats 16000000
section
open Go.RowKit Go.Maps Go.WideMaps
def pairL (s t:Int):Lit:= .string (keyBytes [.int .i64 s,.int .i64 t])
theorem fT {s t s' t':Int} (h1:(Lit.int .i64 s).wf=true) (h2:(Lit.int .i64 t).wf=true) (h3:(Lit.int .i64 s').wf=true) (h4:(Lit.int .i64 t').wf=true) (h:pairL s t=pairL s' t'):s=s'/\t=t':=by
 unfold pairL at h;injection h with h
 have:=keyBytes_inj (l:=[.int .i64 s,.int .i64 t]) (l':=[.int .i64 s',.int .i64 t']) (by simp [Alike,Lit.sameKind]) (by simp [Lit.keyWf,h1,h2]) (by simp [Lit.keyWf,h3,h4]) h;simp at this;exact this
def Memo (P:Program) (k:TypeId) (w:World) (b:Nat) (S:Int->Int->Bool) (ks:List (Int × Int)):Prop:=
 ∃D:DataW Value,w.ownsMap P k (fun v=>some (.held v,[])) b ks.length D/\
  (∀s t,(Lit.int .i64 s).wf=true->(Lit.int .i64 t).wf=true->(s,t)∈ks->∀z,D.atKey (pairL s t) z = .held (.bool (S s t)))/\
  (∀s t,(Lit.int .i64 s).wf=true->(Lit.int .i64 t).wf=true->(s,t)∉ks->∀z,D.atKey (pairL s t) z=z)/\
  (∀p∈ks,(Lit.int .i64 p.1).wf=true/\(Lit.int .i64 p.2).wf=true)
section
variable {P:Program} {k:TypeId} {w:World} {b:Nat} {S:Int->Int->Bool} {ks:List (Int × Int)}
theorem Memo.made (w:World) (P:Program) (k:TypeId) (S:Int->Int->Bool):Memo P k (w.alloc (.map #[] 0)) w.heap.size S []:=
 ⟨.map [],World.ownsMap_made w P k _,fun _ _ _ _ h=>absurd h (by simp),fun _ _ _ _ _ _=>rfl,by simp⟩
theorem Memo.lt (h:Memo P k w b S ks):b<w.heap.size:=by
 obtain ⟨D,h1,_⟩:=h;exact h1.lt
theorem Memo.block {w':World} (h:Memo P k w b S ks) (hb:w'.heap[b]?=w.heap[b]?):Memo P k w' b S ks:=by
 obtain ⟨D,⟨es,clock,h1,h3,h4,h5⟩,h2⟩:=h;exact ⟨D,⟨es,clock,hb.trans h1,h3,h4,h5⟩,h2⟩
theorem Memo.below {w':World} (h:Memo P k w b S ks) (hb:Below w.heap.size w w'):Memo P k w' b S ks:=h.block (hb.block b h.lt)
theorem Memo.alloc (h:Memo P k w b S ks) (o:Obj):Memo P k (w.alloc o) b S ks:=h.below ((aZ _ _).alloc (bA _) _)
theorem Memo.drew (h:Memo P k w b S ks):Memo P k w.drew b S ks:=h
theorem Memo.look {t e:TypeId} (h:Memo P k w b S ks) (A:ArrKey P k e 2) (he:P.underlying e=some (.int .i64)) (hsz:∃m,P.types.size=m+1) {te:TypeId} (ht:P.underlying t=some (.map k te)) (hz:(zeroValue te).run P w = .ok (.bool false) w)
 {x y:Int} (hx:(Lit.int .i64 x).wf=true) (hy:(Lit.int .i64 y).wf=true):
 (Instr.lookup t (.map (some b)) (.agg #[.int .i64 x,.int .i64 y]) true).run P w = .ok (.tuple #[.bool (if (x,y)∈ks then S x y else false),.bool (decide ((x,y)∈ks))]) w:=by
 obtain ⟨D,h1,h2,h3,h4⟩:=h;obtain ⟨v,ps,hrun,hv⟩:=h1.look_ok (Keyed.of_law A.law) ht hz rfl (keyOf_pair A he hsz hx hy);change _=some (D.atKey (pairL x y) _,ps) at hv;rw [hrun];change Result.ok (Value.tuple #[v,.bool (has D (pairL x y))]) w=_;by_cases hm:(x,y)∈ks
 ·rw [h2 x y hx hy hm] at hv;injection hv with hv
  injection hv with hv
  injection hv with hv
  rw [hv,has_true_of_atKey (h2 x y hx hy hm),bD hm];simp [hm]
 ·rw [h3 x y hx hy hm] at hv;injection hv with hv
  injection hv with hv
  injection hv with hv
  rw [hv,has_false_of_atKey (h3 x y hx hy hm),bB hm];simp [hm]
theorem Memo.store {t e:TypeId} (h:Memo P k w b S ks) (A:ArrKey P k e 2) (he:P.underlying e=some (.int .i64)) (hsz:∃m,P.types.size=m+1) {te:TypeId} (ht:P.underlying t=some (.map k te)) (hn:ks.length<maxLen)
 {x y:Int} (hx:(Lit.int .i64 x).wf=true) (hy:(Lit.int .i64 y).wf=true):
 ∃w',(Instr.mapUpdate t (.map (some b)) (.agg #[.int .i64 x,.int .i64 y]) (.bool (S x y))).run P w = .ok () w'/\Memo P k w' b S ((x,y) :: ks)/\w.grownBy w' (some b):=by
 obtain ⟨D,h1,h2,h3,h4⟩:=h;obtain ⟨w',hrun,g1,g2⟩:=h1.update (Keyed.of_law A.law) ht hn (keyOf_pair A he hsz hx hy) (d:= .held (.bool (S x y))) rfl;have hkl:WideAt.IsKeyLit (pairL x y):=trivial;refine ⟨w',hrun,⟨_,g1,?_,?_,?_⟩,g2⟩
 ·intro s t hs ht hm z;by_cases hp:pairL s t=pairL x y
  ·obtain ⟨rfl,rfl⟩:=fT hs ht hx hy hp;exact atKey_put_same h1.isMap hkl _ _
  ·have hne:¬(s=x/\t=y):=fun e=>hp (by rw [e.1,e.2])
   refine (atKey_put_other hp _ _).trans (h2 s t hs ht ?_ z);rcases List.mem_cons.1 hm with e | hm
   ·injection e with e1 e2
    exact absurd ⟨e1,e2⟩ hne
   ·exact hm
 ·intro s t hs ht hm z;have hp:pairL s t≠pairL x y:=fun e=>hm (by obtain ⟨rfl,rfl⟩:=fT hs ht hx hy e;simp)
  exact (atKey_put_other hp _ _).trans (h3 s t hs ht (fun h=>hm (List.mem_cons_of_mem _ h)) z)
 ·intro p hp;rcases List.mem_cons.1 hp with rfl | hp
  ·exact ⟨hx,hy⟩
  ·exact h4 p hp
end
theorem eY {P:Program} (w:World) {ops:Array Oper} {rest:List Oper} {o:Oper} {a:Act} {Q:Exit->Act->World->Prop}
 (hg:o.guard=none) (m x:Operand) (t:TypeId) (hop:o.op=Op.lookup t m x true)
 (k e te:TypeId) (A:ArrKey P k e 2) (he:P.underlying e=some (.int .i64)) (hsz:∃m,P.types.size=m+1) (ht:P.underlying t=some (.map k te)) (hz:(zeroValue te).run P w = .ok (.bool false) w) (b:Nat) (S:Int->Int->Bool) (ks:List (Int × Int))
 (hm:a.eval m = .map (some b)) (hown:Memo P k w b S ks) (s u:Int) (hx:a.eval x = .agg #[.int .i64 s,.int .i64 u]) (h1:(Lit.int .i64 s).wf=true) (h2:(Lit.int .i64 u).wf=true)
 (hK:wpList P ops Q rest (a.put o.dst (.tuple #[.bool (if (s,u)∈ks then S s u else false),.bool (decide ((s,u)∈ks))])) w):
 wpList P ops Q (o :: rest) a w:=by
 refine wpList_plain hg fun K' hK'=>?_
 unfold Oper.wp;simp [execOp,hop,hm,hx,hown.look A he hsz ht hz h1 h2,Result.andThen];simp at hK;exact hK' _ _ hK
theorem dF {P:Program} (w:World) {ops:Array Oper} {rest:List Oper} {o:Oper} {a:Act} {Q:Exit->Act->World->Prop}
 (hg:o.guard=none) (m x v:Operand) (t:TypeId) (hop:o.op=Op.mapUpdate t m x v)
 (k e te:TypeId) (A:ArrKey P k e 2) (he:P.underlying e=some (.int .i64)) (hsz:∃m,P.types.size=m+1) (ht:P.underlying t=some (.map k te)) (b:Nat) (S:Int->Int->Bool) (ks:List (Int × Int))
 (hm:a.eval m = .map (some b)) (hown:Memo P k w b S ks) (hn:ks.length<maxLen) (s u:Int) (hx:a.eval x = .agg #[.int .i64 s,.int .i64 u]) (h1:(Lit.int .i64 s).wf=true) (h2:(Lit.int .i64 u).wf=true) (hv:a.eval v = .bool (S s u))
 (hK:∀w',Memo P k w' b S ((s,u) :: ks)->w.grownBy w' (some b)->wpList P ops Q rest (a.put o.dst undef) w'):
 wpList P ops Q (o :: rest) a w:=by
 refine wpList_plain hg fun K' hK'=>?_
 obtain ⟨w',hrun,r1,r2⟩:=hown.store A he hsz ht hn h1 h2;unfold Oper.wp;simp [execOp,hop,hm,hx,hv,hrun,Result.andThen];exact hK' _ _ (hK w' r1 r2)
theorem oQ (n:Nat) (nodupL:∀(n:Nat) (l:List Int),l.Nodup->(∀x∈l,0<=x/\x<n)->l.length<=n) (ks:List (Int × Int)) (h:ks.Nodup) (hr:∀p∈ks,0<=p.1/\p.1<(n:Int)/\0<=p.2/\p.2<(n:Int)):ks.length<=n * n:=by
 have h1:(ks.map (fun p=>p.1 * (n:Int)+p.2)).Nodup:=by
  unfold List.Nodup;rw [List.pairwise_map];refine List.Pairwise.imp_of_mem ?_ h;intro a b ha hb hne heq;obtain ⟨a1,a2,a3,a4⟩:=hr a ha;obtain ⟨b1,b2,b3,b4⟩:=hr b hb
  have e2:a.2=b.2:=by
   have:=congrArg (· % (n:Int)) heq;simp only [Int.mul_add_emod_self_right] at this;rwa [Int.emod_eq_of_lt a3 a4,Int.emod_eq_of_lt b3 b4] at this
  have e1:a.1=b.1:=by
   have hn:(n:Int)≠0:=by omega
   have:a.1 * (n:Int)=b.1 * (n:Int):=by rw [e2] at heq;omega
   exact Int.eq_of_mul_eq_mul_right hn this
  exact hne (by cases a;cases b;simp_all)
 have:=nodupL (n * n) _ h1 (fun x hx=>by
  obtain ⟨p,hp,rfl⟩:=List.mem_map.1 hx;obtain ⟨a1,a2,a3,a4⟩:=hr p hp;have g1:0<=p.1 * (n:Int):=Int.mul_nonneg a1 (by omega);have g2:p.1 * (n:Int)<=((n:Int) - 1) * (n:Int):=Int.mul_le_mul_of_nonneg_right (by omega) (by omega);have g3:((n:Int) - 1) * (n:Int)=(n:Int) * n - n:=by rw [Int.sub_mul,Int.one_mul]
  refine ⟨by omega,?_⟩;push_cast
  omega)
 rwa [cH] at this
end
section
open Go Go.RowKit Go.Shelf
theorem xI (c:UInt8):(c.toNat:Int).toNat.toUInt8=c:=by simp
theorem qG (s:ByteArray) (k:Nat) (h:k<s.size):s.data.toList.drop k=s[k] :: s.data.toList.drop (k+1):=by
 rw [cJ (by simpa using h)];rfl
theorem xAK (s:ByteArray) (k:Nat) (h:s.size<=k):s.data.toList.drop k=[]:=bG (by simpa using h)
theorem eQ (s:ByteArray):s.data.toList.length=s.size:=by simp
theorem nH (b:Nat) (x:UInt8) (v:Bool) (w:World) (hc:w.cell? ⟨b,x.toNat,none⟩=some (.bool v)):
 Calls Tryz.prog 203 #[.pointer (some ⟨b,0,none⟩),.int .u8 x.toNat] w fun e w'=>e = .returned (.bool v)/\w'=w:=Tryz.asciiSet_contains b x v w hc
theorem qF {p:UInt8->Bool} {c:UInt8} {r:List UInt8} (h:p c=true):(c :: r).dropWhile p=r.dropWhile p:=by simp [h]
theorem wV {p:UInt8->Bool} {c:UInt8} {r:List UInt8} (h:p c=false):(c :: r).dropWhile p=c :: r:=by simp [h]
theorem tR (s:ByteArray) (b:Nat) (p:UInt8->Bool) (w:World) (hset:∀x:UInt8,w.cell? ⟨b,x.toNat,none⟩=some (.bool (p x))):
 Calls Tryz.prog 172 #[.string s,.pointer (some ⟨b,0,none⟩)] w fun e w'=>(∃t,e = .returned (.string t)/\t.data.toList=s.data.toList.dropWhile p)/\w'=w:=by
 have HS:=aH hset;clear hset;go_enter Tryz.func172,Tryz.ntmps172
 go_wp2_with fail
 go_loop [0] (fun v=>∃t:ByteArray,v = .string t/\t.size<=s.size/\Hid (s.data.toList.dropWhile p=t.data.toList.dropWhile p)) (fun v=>Lib.strSize v)
 case atStart=>exact ⟨s,rfl,bA _,aH rfl⟩
 case round=>
  obtain ⟨t,rfl,hle,hp⟩:=hrel;by_cases h0:0<t.size
  ·have hd:=qG t 0 h0;rw [bZ] at hd;have hcx:=HS.out t[0];cases hin:p t[0]
   ·rw [hin] at hcx;have HA:=aH (nH b t[0] false w hcx);have HF:Hid (t.data.toList=s.data.toList.dropWhile p):=aH (by rw [hp.out,hd,wV hin]);clear hd hcx hin hp;go_wp2_with (go_at_call 203;refine HA.out.mono ?_;rintro e w' ⟨rfl,hw⟩;obtain rfl:=hw.symm)
    go_ret;exact ⟨⟨t,rfl,HF.out⟩,rfl⟩
   ·rw [hin] at hcx;have HA:=aH (nH b t[0] true w hcx);have HF:Hid (s.data.toList.dropWhile p=(t.extract 1 t.size).data.toList.dropWhile p):=aH (by rw [hp.out,hd,qF hin,Lib.extract_to_end]);clear hd hcx hin hp;go_wp2_with (go_at_call 203;refine HA.out.mono ?_;rintro e w' ⟨rfl,hw⟩;obtain rfl:=hw.symm)
    go_round
    case rel=>exact ⟨t.extract 1 t.size,rfl,by simp;omega,HF⟩
    case measure=>rw [Lib.strSize_string,Lib.strSize_string];simp;omega
  ·have h00:t.size=0:=by omega
   have hnil:t.data.toList=[]:=bW (by rw [eQ];omega);have HF:Hid (t.data.toList=s.data.toList.dropWhile p):=aH (by rw [hp.out,hnil];rfl);clear hnil hp h0;go_wp2_with fail
   go_ret;exact ⟨⟨t,rfl,HF.out⟩,rfl⟩
structure trimRP (s t:ByteArray) (p:UInt8->Bool):Prop where
 one:t.data.toList.all p=true->t.size=0
 two:t.size=0->s.data.toList.all p=true
 three:s.data.toList.all p=true->t.data.toList.all p=true
theorem tQ (s:ByteArray) (b:Nat) (p:UInt8->Bool) (w:World) (hs:s.size<=9223372036854775807) (hset:∀x:UInt8,w.cell? ⟨b,x.toNat,none⟩=some (.bool (p x))):
 Calls Tryz.prog 173 #[.string s,.pointer (some ⟨b,0,none⟩)] w fun e w'=>(∃t,e = .returned (.string t)/\trimRP s t p)/\w'=w:=by
 have HS:=aH hset;clear hset;go_enter Tryz.func173,Tryz.ntmps173
 go_wp2_with fail
 go_loop [0] (fun v=>∃t:ByteArray,v = .string t/\t.size<=s.size/\Hid (s.data.toList.all p=t.data.toList.all p)) (fun v=>Lib.strSize v)
 case atStart=>exact ⟨s,rfl,bA _,aH rfl⟩
 case round=>
  obtain ⟨t,rfl,hle,hp⟩:=hrel;by_cases h0:0<t.size
  ·have hk:t.size - 1<t.size:=by omega
   have hd:t.data.toList=(t.extract 0 (t.size - 1)).data.toList ++ [t[t.size - 1]]:=by
    have h1:=qG t (t.size - 1) hk;rw [show t.size - 1+1=t.size by omega,xAK t t.size (bA _)] at h1;rw [<- h1,Lib.extract_data,bZ,Nat.sub_zero,List.take_append_drop]
   have hcx:=HS.out t[t.size - 1];have hw1:((t.size:Int) - 1)=((t.size - 1:Nat):Int):=by omega
   cases hin:p t[t.size - 1]
   ·rw [hin] at hcx;have HA:=aH (nH b t[t.size - 1] false w hcx);have HF:Hid (t.data.toList.all p=false):=aH (by rw [hd];simp [hin]);clear hd hcx hin;go_wp2_with (go_at_call 203;refine HA.out.mono ?_;rintro e w' ⟨rfl,hw⟩;obtain rfl:=hw.symm)
    go_ret;refine ⟨⟨t,rfl,fun h=>?_,fun h=>by omega,fun h=>by rw [<- hp.out];exact h⟩,rfl⟩;rw [HF.out] at h;cases h
   ·rw [hin] at hcx;have HA:=aH (nH b t[t.size - 1] true w hcx);have HF:Hid (s.data.toList.all p=(t.extract 0 (t.size - 1)).data.toList.all p):=aH (by rw [hp.out,hd,List.all_append,cD,hin];simp);clear hd hcx hin hp;go_wp2_with (go_at_call 203;refine HA.out.mono ?_;rintro e w' ⟨rfl,hw⟩;obtain rfl:=hw.symm)
    go_round
    case rel=>exact ⟨t.extract 0 (t.size - 1),rfl,by simp;omega,HF⟩
    case measure=>rw [Lib.strSize_string,Lib.strSize_string];simp;omega
  ·have h00:t.size=0:=by omega
   have hnil:t.data.toList=[]:=bW (by rw [eQ];omega);have HF:Hid (s.data.toList.all p=true/\t.data.toList.all p=true):=aH (by rw [hp.out,hnil];exact ⟨rfl,rfl⟩);clear hnil hp h0;go_wp2_with fail
   go_ret;exact ⟨⟨t,rfl,fun _=>h00,fun _=>HF.out.1,fun _=>HF.out.2⟩,rfl⟩
theorem xBQ {p:UInt8->Bool}:∀{l:List UInt8},l.dropWhile p=[]->l.all p=true
 | [],_=>rfl
 | c :: r,h=>by
   cases hc:p c
   ·rw [wV hc] at h;cases h
   ·rw [qF hc] at h;simp only [cD,hc,xBQ h,Bool.and_self]
theorem xBR {p:UInt8->Bool}:∀{l:List UInt8},l.all p=true->l.dropWhile p=[]
 | [],_=>rfl
 | c :: r,h=>by
   simp only [cD,bR] at h;rw [qF h.1,xBR h.2]
def lettersA:ByteArray:=⟨#[95,97,98,99,100,101,102,103,104,105,106,107,108,109,110,111,112,113,114,115,116,117,118,119,120,121,122,65,66,67,68,69,70,71,72,73,74,75,76,77,78,79,80,81,82,83,84,85,86,87,88,89,90,48,49,50,51,52,53,54,55,56,57]⟩
theorem xCZ:(Tryz.prog.info? 248).map (fun i=>(i.zero,i.size))=some (some (.agg (Array.replicate 256 (.bool false))),256):=by kernel_rfl
theorem xBV:∀w,(zeroValue 248).run Tryz.prog w = .ok (.agg (Array.replicate 256 (.bool false))) w:=fun w=>by
 have h:=xCZ;cases hi:Tryz.prog.info? 248 with
 | none=>rw [hi] at h;cases h
 | some i=>
   rw [hi] at h;simp at h;simp [zeroValue,typeInfo,hi,h.1]
theorem xL {l:List UInt8} (h:l.all (fun c=>decide (c.toNat<128))=true):∀(j:Nat) b,l[j]?=some b->b.toNat<128:=fun j b hj=>by
 simpa using List.all_eq_true.1 h b (List.mem_of_getElem? hj)
theorem yB (s:ByteArray) (w:World) (h0:0<s.size) (hs:s.size<=9223372036854775807):
 Calls Tryz.prog 147 #[.string s,.string lettersA] w fun e w'=>(∃t,e = .returned (.string t)/\(t.size=0↔s.data.toList.all (fun c=>lettersA.data.toList.contains c)=true))/\Below w.heap.size w w':=by
 have hM:=Tryz.strings_makeASCIISet xBV lettersA w (by decide) (xL (by decide));have hn1:((lettersA.size:Int) == 1)=false:=by decide
 have hemp:lettersA.toList.isEmpty=false:=by rw [Lib.toList_data];rfl
 have hc0:2<=lettersA.size:=by decide
 generalize lettersA=cutset at *
 have hemps:s.toList.isEmpty=false:=by
  rw [Lib.toList_data];cases h:s.data.toList with
  | nil=>have:=Lib.size_eq s;rw [h,bQ] at this;omega
  | cons _ _=>rfl
 have hsc:(storeCells ⟨w.heap.size+1,0,none⟩ (Lib.setCells cutset.data.toList).toList 0).run Tryz.prog ((w.alloc (.cells (Lib.setCells cutset.data.toList) 248)).alloc (.cells (Array.replicate 256 (.bool false)) 248)) = .ok () ((w.alloc (.cells (Lib.setCells cutset.data.toList) 248)).alloc (.cells (Lib.setCells cutset.data.toList) 248)):=by
  have:=run_storeCells_new (P:=Tryz.prog) (w.alloc (.cells (Lib.setCells cutset.data.toList) 248)) 248 (Array.replicate 256 (.bool false)) (Lib.setCells cutset.data.toList) (by rw [Lib.setCells_size];kernel_rfl) (by rw [Lib.setCells_size,Array.size_replicate]) (Lib.setCells_one _);simpa using this
 have hsz:=Lib.setCells_size cutset.data.toList;have hz:Tryz.zeroCells248=Array.replicate 256 (.bool false):=by kernel_rfl
 obtain ⟨W,hW⟩:∃W,((w.alloc (.cells (Lib.setCells cutset.data.toList) 248)).alloc (.cells (Lib.setCells cutset.data.toList) 248))=W:=⟨_,rfl⟩
 have hcellAt:∀x:UInt8,W.cell? ⟨w.heap.size+1,x.toNat,none⟩=some (.bool (cutset.data.toList.contains x)):=fun x=>by
  rw [<- hW,World.cell?_alloc_at _ _ _ _ (by simp),Lib.setCells_at]
 have hB:Below w.heap.size w W:=by rw [<- hW];exact ((aZ _ _).alloc (bA _) _).alloc (by simp) _
 have HR:=aH (tQ s (w.heap.size+1) (fun c=>cutset.data.toList.contains c) W hs hcellAt);have HL:=aH (fun t=>tR t (w.heap.size+1) (fun c=>cutset.data.toList.contains c) W hcellAt);have HB:=aH hB;clear hcellAt hB hs;go_enter Tryz.func147,Tryz.ntmps147
 go_wp2_with (first
  | (go_at_call 171;refine hM.mono ?_;rintro e w' ⟨rfl,hw⟩;rw [hw])
  | (go_at_call 173;refine HR.out.mono ?_;rintro e w' ⟨⟨t,rfl,ht⟩,hw⟩;obtain rfl:=hw.symm)
  | (go_at_call 172;refine (HL.out _).mono ?_;rintro e w' ⟨⟨u,rfl,hu⟩,hw⟩;obtain rfl:=hw.symm))
 go_ret;refine ⟨⟨u,rfl,⟨fun h=>?_,fun h=>?_⟩⟩,HB.out⟩
 ·have h1:u.data.toList=[]:=bW (by rw [eQ];exact h);exact ht.two (ht.one (xBQ (hu ▸ h1)))
 ·have h1:=xBR (ht.three h);rw [<- eQ,hu,h1];rfl
def digitsA:ByteArray:=⟨#[48,49,50,51,52,53,54,55,56,57]⟩
theorem yX (c:UInt8):lettersA.data.toList.contains c=(isLet c || isDig c):=by
 have h:∀n,n<256->lettersA.data.toList.contains (UInt8.ofNat n)=(isLet (UInt8.ofNat n) || isDig (UInt8.ofNat n)):=by decide +kernel
 have:=h c.toNat c.toNat_lt;simpa using this
theorem xCI (c:UInt8):digitsA.data.toList.contains c=isDig c:=by
 have h:∀n,n<256->digitsA.data.toList.contains (UInt8.ofNat n)=isDig (UInt8.ofNat n):=by decide +kernel
 have:=h c.toNat c.toNat_lt;simpa using this
theorem xCW (c:UInt8):isLet c=true->isDig c=false:=by
 intro h;simp only [isLet,isDig,Bool.or_eq_true,decide_eq_true_eq,decide_eq_false_iff_not] at *;omega
theorem rZ (l:List UInt8):wL l=(decide (1<=l.length) && decide (l.length<=255) && !(l.head?.any isDig) && l.all (fun c=>isLet c || isDig c)):=by
 cases l with
 | nil=>rfl
 | cons c r=>
   have:=xCW c;simp only [wL,bN,List.head?_cons,Option.any_some,cD];cases h1:isLet c <;> cases h2:isDig c <;> simp_all [Bool.and_comm]
theorem index_of_mem (c:UInt8):∀l:List UInt8,(0<=Lib.indexByte l c/\l.contains c=true)\/(Lib.indexByte l c = -1/\l.contains c=false)
 | []=>Or.inr ⟨rfl,rfl⟩
 | b :: l=>by
   unfold Lib.indexByte;by_cases hb:b=c
   ·subst hb;exact Or.inl ⟨by simp,by simp⟩
   ·have hb2:(b == c)=false:=by simpa using hb
    have hb3:(c == b)=false:=by simpa using fun h=>hb h.symm
    rw [hb2,List.contains_cons,hb3];rcases index_of_mem c l with ⟨h1,h2⟩ | ⟨h1,h2⟩
    ·refine Or.inl ⟨?_,by simpa using h2⟩;have:(Lib.indexByte l c == -1)=false:=by simp;omega
     rw [this];simp;omega
    ·refine Or.inr ⟨?_,by simpa using h2⟩;rw [h1];rfl
theorem wK {s:ByteArray} (h:s.size=0):isIdent s=false:=by
 have:s.data.toList=[]:=bW (by rw [eQ];exact h);unfold isIdent;rw [this];rfl
theorem eW (s:ByteArray) (w:World):
 Calls Tryz.prog 111 #[.string s] w fun e w'=>e = .returned (.bool (isIdent s))/\Below w.heap.size w w':=by
 by_cases h0:s.size=0
 ·have HI:=aH (wK h0)
  have hemp:s.toList.isEmpty=true:=by
   rw [Lib.toList_data,show s.data.toList=[] from bW (by rw [eQ];exact h0)];rfl
  go_enter Tryz.func111,Tryz.ntmps111
  go_wp2_with fail
  go_ret;exact ⟨by rw [HI.out];rfl,aZ _ _⟩
 ·have hd:=qG s 0 (by omega);obtain ⟨c,hc⟩:∃c,s[0]'(by omega)=c:=⟨_,rfl⟩;rw [bZ,hc] at hd;have hlen:=eQ s
  have hemp:s.toList.isEmpty=false:=by
   rw [Lib.toList_data,hd];rfl
  have HI:Hid (isIdent s=(decide (1<=s.size) && decide (s.size<=255) && !(isDig c) && s.data.toList.all (fun c=>lettersA.data.toList.contains c))):=aH (by
   unfold isIdent;rw [rZ,hlen,hd]
   simp only [List.head?_cons,Option.any_some,yX])
  have hx:=index_of_mem c digitsA.data.toList;rw [xCI] at hx;have hib:=Tryz.strings_IndexByte digitsA c.toNat w;rw [xI] at hib;generalize Lib.indexByte digitsA.data.toList c=j at hx hib;have HIB:=aH hib;obtain ⟨dg,hdg⟩:∃dg,isDig c=dg:=⟨_,rfl⟩;rw [hdg] at hx HI;clear hd hdg hlen hib;by_cases h1:s.size<=255
  ·have HT:=aH (yB s w (by omega) (by omega));rcases hx with ⟨hj,rfl⟩ | ⟨rfl,rfl⟩
   ·go_enter Tryz.func111,Tryz.ntmps111
    go_wp2_with (go_at_call 146;refine HIB.out.mono ?_;rintro e' w' ⟨rfl,hw'⟩;obtain rfl:=hw'.symm)
    go_ret;exact ⟨by rw [HI.out];simp,aZ _ _⟩
   ·go_enter Tryz.func111,Tryz.ntmps111
    go_wp2_with (first
     | (go_at_call 146;refine HIB.out.mono ?_;rintro e' w' ⟨rfl,hw'⟩;obtain rfl:=hw'.symm)
     | (go_at_call 147;refine HT.out.mono ?_;rintro e' w1 ⟨⟨t,rfl,ht⟩,hb1⟩))
    go_ret;refine ⟨?_,hb1⟩
    have he:t.toList.isEmpty=s.data.toList.all (fun c=>lettersA.data.toList.contains c):=by
     rw [bS,<- ht,Lib.toList_data,List.isEmpty_iff,<- List.length_eq_zero_iff,eQ]
    rw [HI.out,<- he];simp [h1];omega
  ·go_enter Tryz.func111,Tryz.ntmps111
   go_wp2_with fail
   go_ret;exact ⟨by rw [HI.out];simp [h1],aZ _ _⟩
end
section
open Go Go.RowKit Go.Maps
def seenF (ns:List ByteArray) (l:List UInt8):Bool:=ns.any (fun s=>decide (s.data.toList=l))
theorem xFB {s t:ByteArray} (h:s.data.toList=t.data.toList):s=t:=by
 cases s;cases t
 simpa using h
theorem oJ (ns:List ByteArray) (s:ByteArray):seenF ns s.data.toList=memN s ns:=by
 unfold seenF memN;congr 1
 funext x
 rw [decide_eq_decide];exact ⟨xFB,fun h=>by rw [h]⟩
theorem oI (ns:List ByteArray) (s:ByteArray):strF (seenF (s :: ns)) (.string s.data.toList)=true:=by
 simp [strF,seenF]
theorem oH (ns:List ByteArray) (s:ByteArray):∀x,x≠Lit.string s.data.toList->strF (seenF (s :: ns)) x=strF (seenF ns) x:=by
 intro x hx;cases x <;> try rfl
 rename_i l;have:s.data.toList≠l:=fun h=>hx (by rw [h])
 simp [strF,seenF,this]
theorem rB:strF (seenF [])=fun _=>false:=by
 funext x
 cases x <;> rfl
theorem law9:Keyed Tryz.prog 9:=string_keyed Tryz.underlying9
theorem tB {s:ByteArray} (h:isIdent s=true):s.size<=255:=by
 unfold isIdent at h;rw [rZ] at h;simp only [bR,decide_eq_true_eq,eQ] at h;omega
theorem key9 {s:ByteArray} (h:isIdent s=true):keyOf Tryz.prog 9 (.string s)=some (.string s.data.toList):=Go.WideMaps.keyOf_string_mk Tryz.underlying9 (by have:=tB h;unfold maxLen;omega)
theorem zeroB:∀w,(zeroValue 4).run Tryz.prog w = .ok (.bool false) w:=Tryz.zeroValue4
theorem vN (l:List ByteArray) (A:Option Addr) (c:Nat) (w:World) (hs:Slc 1 RN w A c l):
 Calls Tryz.prog 113 #[.slice A l.length c] w fun e' w'=>e' = .returned (.int .i64 (namesC l))/\Below w.heap.size w w':=by
 have hle:=hs.le;have hbig:=hs.big;unfold namesC;by_cases h0:65535<l.length
 ·rw [bD h0];clear hs;go_enter Tryz.func113,Tryz.ntmps113
  go_wp2_with fail
  go_ret;exact ⟨rfl,aZ _ _⟩
 rw [bB h0];obtain ⟨R,hR⟩:∃R,namesE [] l=R:=⟨_,rfl⟩;rw [hR];have HR:=aH hR;have HS:=aH hs;clear hR hs;have hmm:= @run_makeMap Tryz.prog;go_enter Tryz.func113,Tryz.ntmps113
 go_wp2_with fail
 go_loopw [12] (fun v wr=>∃(k:Nat) (ns:List ByteArray),k<=l.length/\v = .int .i64 k/\OwnB Tryz.prog 9 4 wr w.heap.size k (strF (seenF ns))/\Hid (Below w.heap.size w wr)/\Hid (R=namesE ns (l.drop k))) (fun v _=>l.length - (intOf v).toNat)
 case atStart=>exact ⟨0,[],by omega,rfl,by rw [rB];exact OwnB.made _ _ _ _,aH ((aZ _ _).alloc (bA _) _),aH HR.out.symm⟩
 case round=>
  obtain ⟨k,ns,hk,rfl,hown,hB,hr⟩:=hrel;by_cases hlt:k<l.length
  ·have hd:=dA hlt;obtain ⟨b,o,rfl,hb,hx⟩:=(HS.out.sl.keep RN.keeps hB.out.size hB.out).at_ hlt;obtain ⟨s,hsx⟩:∃s,l[k]=s:=⟨_,rfl⟩;rw [hsx] at hd hx;have x0:wr.cell? ⟨b,o+k,none⟩=some (.string s):=by simpa [RN] using hx
   have HI:=aH (eW s wr);have HN:Hid (R=if isIdent s=false then 12 else if memN s ns=true then 21 else namesE (s :: ns) (l.drop (k+1))):=aH (by rw [hr.out,hd];rfl);have hsz:=hB.out.size;clear hd hx hr hsx;cases hid:isIdent s
   ·rw [hid] at HI HN;clear hid hown;go_wp2_with (go_at_call 111;refine HI.out.mono ?_;rintro e' w1 ⟨rfl,hb1⟩)
    go_ret;exact ⟨by rw [HN.out];rfl,hB.out.trans (hb1.mono hsz)⟩
   ·have hkey:=key9 hid;rw [hid] at HI HN;have HM:=aH (oJ ns s);clear hid;cases hm:memN s ns
    ·have HN':Hid (R=namesE (s :: ns) (l.drop (k+1))):=aH (by rw [HN.out,hm];rfl);have HF:Hid (strF (seenF ns) (.string s.data.toList)=false):=aH (by simp only [strF];rw [HM.out,hm]);clear hm HN HM
     go_wp2_with (first
      | (go_at_call 111;refine HI.out.mono ?_;rintro e' w1 ⟨rfl,hb1⟩;have hown1:=hown.below hb1)
      | (at_lookup;refine dB _ rfl _ _ 220 rfl 9 4 law9 Tryz.underlying220 Tryz.underlying4 (zeroB _) _ _ _ rfl hown1 _ _ rfl hkey ?_;rw [HF.out])
      | (at_mapUpdate;refine eE _ rfl _ _ _ 220 rfl 9 4 law9 Tryz.underlying220 Tryz.underlying4 _ _ _ rfl hown1 (by unfold maxLen;omega) _ _ _ rfl rfl hkey trivial _ (oI ns s) (oH ns s) ?_;intro w2 hown2 hg2))
     go_roundw
     case rel=>exact ⟨k+1,s :: ns,by omega,by go_num,hown2,aH ((hB.out.trans (hb1.mono hsz)).trans (dN hg2 (bA _) (cA hsz hb1.size))),HN'⟩
     case measure=>simp [intOf];omega
    ·have HN':Hid (R=21):=aH (by rw [HN.out,hm];rfl);have HF:Hid (strF (seenF ns) (.string s.data.toList)=true):=aH (by simp only [strF];rw [HM.out,hm]);clear hm HN HM
     go_wp2_with (first
      | (go_at_call 111;refine HI.out.mono ?_;rintro e' w1 ⟨rfl,hb1⟩;have hown1:=hown.below hb1)
      | (at_lookup;refine dB _ rfl _ _ 220 rfl 9 4 law9 Tryz.underlying220 Tryz.underlying4 (zeroB _) _ _ _ rfl hown1 _ _ rfl hkey ?_;rw [HF.out]))
     go_ret;exact ⟨by rw [HN'.out];rfl,hB.out.trans (hb1.mono hsz)⟩
  ·have HN:Hid (R=0):=aH (by rw [hr.out,bG (by omega)];rfl);clear hr hown;go_wp2_with fail
   go_ret;exact ⟨by rw [HN.out];rfl,hB.out⟩
def bxW (w:World) (b:Bdy) (h:BH):World:=w.alloc (.cells (bdC b h).toArray 59)
theorem nU (w:World) (b:Bdy) (h:BH):(bxW w b h).heap.size=w.heap.size+1:=by simp [bxW]
theorem lZ (w:World) (b:Bdy) (h:BH):Below w.heap.size w (bxW w b h):=(aZ _ _).alloc (bA _) _
theorem nT {w wr:World} {b:Bdy} {h:BH} (hB:Below (w.heap.size+1) (bxW w b h) wr) (i:Nat) (v:Value) (hi:(bdC b h)[i]?=some v):wr.cell? ⟨w.heap.size,i,none⟩=some v:=by
 refine (hB.cell (p:=⟨w.heap.size,i,none⟩) (by simp)).trans ?_;rw [bxW,World.cell?_alloc_at _ _ _ _ (by simp)];simpa using hi
theorem mW {w wr:World} {b:Bdy} {h:BH} (hB:Below (w.heap.size+1) (bxW w b h) wr):Below w.heap.size w wr:=
 (lZ w b h).trans (hB.mono (by omega))
theorem pP (w:World) (x y:Value) (t:TypeId):(w.alloc (.cells #[x,y] t)).cell? ⟨w.heap.size,0,none⟩=some x/\(w.alloc (.cells #[x,y] t)).cell? ⟨w.heap.size,1,none⟩=some y:=by
 constructor <;> (rw [World.cell?_alloc_at _ _ _ _ (by simp)];rfl)
theorem keepA {w W:World} {o:Obj} {p:Addr} {v:Value} (hb:Below (w.alloc o).heap.size (w.alloc o) W) (h:w.cell? p=some v):W.cell? p=some v:=
 cQ hb (((((aZ w.heap.size w).alloc (bA _) o).cell (p:=p) (cF w p h))).trans h)
theorem sY (b:Bdy) (bh:BH) (w:World) (H:BdAt w b bh):
 Calls Tryz.prog 116 #[.agg (bdC b bh).toArray] w fun e' w'=>e' = .returned (.int .i64 (localsC b))/\Below w.heap.size w w':=by
 obtain ⟨A1,c1,A2,c2,A3,c3,A4,c4,A5,c5⟩:=bh;have hle:=H.loc.le;have hbig:=H.loc.big;have HLOC:=aH H.loc;have htl:=H.typ.le;have htb:=H.typ.big;unfold localsC;clear H;unfold bdC;simp only at hle hbig htl htb HLOC ⊢;have HBX:=aH (lZ w b ⟨A1,c1,A2,c2,A3,c3,A4,c4,A5,c5⟩);by_cases h0:65535<b.locals.length
 ·rw [bD h0];go_enter Tryz.func116,Tryz.ntmps116
  go_wp2_with fail
  go_ret;exact ⟨rfl,HBX.out⟩
 rw [bB h0];obtain ⟨R,hR⟩:∃R,localsE b.types.length [] b.locals=R:=⟨_,rfl⟩;rw [hR];have HR:=aH hR;clear hR;obtain ⟨Q,hQ⟩:∃Q,(if R=0 then (if b.args<0\/(b.locals.length:Int)<b.args then 3 else 0) else R)=Q:=⟨_,rfl⟩;rw [hQ];have HQ:=aH hQ;clear hQ;have hmm:= @run_makeMap Tryz.prog;go_enter Tryz.func116,Tryz.ntmps116
 go_wp2_with fail
 go_loopw [14] (fun v wr=>∃(k:Nat) (ns:List ByteArray),k<=b.locals.length/\v = .int .i64 k/\OwnB Tryz.prog 9 4 wr (w.heap.size+1) k (strF (seenF ns))/\Hid (Below (w.heap.size+1) (bxW w b ⟨A1,c1,A2,c2,A3,c3,A4,c4,A5,c5⟩) wr)/\Hid (R=localsE b.types.length ns (b.locals.drop k))) (fun v _=>b.locals.length - (intOf v).toNat)
 case atStart=>exact ⟨0,[],by omega,rfl,by rw [rB];have:=OwnB.made (bxW w b ⟨A1,c1,A2,c2,A3,c3,A4,c4,A5,c5⟩) Tryz.prog 9 4;rw [nU] at this;exact this,aH ((aZ _ (bxW w b ⟨A1,c1,A2,c2,A3,c3,A4,c4,A5,c5⟩)).alloc (by rw [nU];omega) _),aH HR.out.symm⟩
 case round=>
  obtain ⟨k,ns,hk,rfl,hown,hB,hr⟩:=hrel;have x3:=nT hB.out 3 _ rfl;have x4:=nT hB.out 4 _ rfl;have x5:=nT hB.out 5 _ rfl;have hsz:=hB.out.size;rw [nU] at hsz;by_cases hlt:k<b.locals.length
  ·have hd:=dA hlt;obtain ⟨bb,o,rfl,hb,hx⟩:=(HLOC.out.sl.keep RLc.keeps (cA (Nat.le_succ _) hsz) (mW hB.out)).at_ hlt;obtain ⟨s,hsx⟩:∃s,b.locals[k]=s:=⟨_,rfl⟩;rw [hsx] at hd hx;obtain ⟨y0,y1⟩:=hx;have hls:=eB hb;have HN:Hid (R=if isIdent s.name=false then 12 else if memN s.name ns=true then 21 else if s.type<0\/(b.types.length:Int)<=s.type then 3 else localsE b.types.length (s.name :: ns) (b.locals.drop (k+1))):=aH (by rw [hr.out,hd];rfl);clear hd hr hsx;cases hid:isIdent s.name
   ·have HF:Hid (Q=12):=aH (by rw [<- HQ.out,HN.out,hid];rfl);have HI:Hid (∀W,Calls Tryz.prog 111 #[.string s.name] W fun e w'=>e = .returned (.bool false)/\Below W.heap.size W w'):=aH (fun W=>by rw [<- hid];exact eW s.name W);clear hid hown HN;go_wp2_with (go_at_call 111;refine (HI.out _).mono ?_;rintro e' w1 ⟨rfl,hb1⟩)
    go_ret;exact ⟨by rw [HF.out];rfl,((mW hB.out).alloc (by omega) _).trans (hb1.mono (by simp;omega))⟩
   ·have hkey:=key9 hid;have HI:Hid (∀W,Calls Tryz.prog 111 #[.string s.name] W fun e w'=>e = .returned (.bool true)/\Below W.heap.size W w'):=aH (fun W=>by rw [<- hid];exact eW s.name W);have HM:=aH (oJ ns s.name);rw [hid] at HN;clear hid;cases hm:memN s.name ns
    case true=>
     have HF:Hid (Q=21):=aH (by rw [<- HQ.out,HN.out,hm];rfl);have HS:Hid (strF (seenF ns) (.string s.name.data.toList)=true):=aH (by simp only [strF];rw [HM.out,hm]);clear hm HN HM
     go_wp2_with (first
      | (go_at_call 111;refine (HI.out _).mono ?_;rintro e' w1 ⟨rfl,hb1⟩;have hown1:=(hown.alloc _).below hb1;obtain ⟨z0,z1⟩:=pP wr (.string s.name) (.int .i64 s.type) 106;replace z0:=cQ hb1 z0;replace z1:=cQ hb1 z1;have z3:=keepA hb1 x3)
      | (at_lookup;refine dB _ rfl _ _ 220 rfl 9 4 law9 Tryz.underlying220 Tryz.underlying4 (zeroB _) _ _ _ rfl hown1 _ _ rfl hkey ?_;rw [HS.out]))
     go_ret;exact ⟨by rw [HF.out];rfl,((mW hB.out).alloc (by omega) _).trans (hb1.mono (by simp;omega))⟩
    case false=>
     have HS:Hid (strF (seenF ns) (.string s.name.data.toList)=false):=aH (by simp only [strF];rw [HM.out,hm]);rw [hm] at HN;have HT:Hid ((s.type<0\/(b.types.length:Int)<=s.type)->Q=3):=aH (fun h=>by rw [<- HQ.out,HN.out];simp only [Bool.true_eq_false,Bool.false_eq_true,if_false];rw [bD h];rfl);have HG:Hid (¬(s.type<0\/(b.types.length:Int)<=s.type)->R=localsE b.types.length (s.name :: ns) (b.locals.drop (k+1))):=aH (fun h=>by rw [HN.out];simp only [Bool.true_eq_false,Bool.false_eq_true,if_false];rw [bB h]);clear hm HN HM;by_cases hty:s.type<0\/(b.types.length:Int)<=s.type
     ·have HF:=aH (HT.out hty);clear HT HG
      go_wp2_with (first
       | (go_at_call 111;refine (HI.out _).mono ?_;rintro e' w1 ⟨rfl,hb1⟩;have hown1:=(hown.alloc _).below hb1;obtain ⟨z0,z1⟩:=pP wr (.string s.name) (.int .i64 s.type) 106;replace z0:=cQ hb1 z0;replace z1:=cQ hb1 z1;have z3:=keepA hb1 x3)
       | (at_lookup;refine dB _ rfl _ _ 220 rfl 9 4 law9 Tryz.underlying220 Tryz.underlying4 (zeroB _) _ _ _ rfl hown1 _ _ rfl hkey ?_;rw [HS.out]))
      all_goals first
       | (exfalso;omega)
       | (go_ret
          exact ⟨by rw [HF.out];rfl,((mW hB.out).alloc (by omega) _).trans (hb1.mono (by simp;omega))⟩)
     ·have HF:=aH (HG.out hty);clear HT HG;have e1:¬s.type<0:=(by omega);have e2:¬(b.types.length:Int)<=s.type:=(by omega);clear hty
      go_wp2_with (first
       | (go_at_call 111;refine (HI.out _).mono ?_;rintro e' w1 ⟨rfl,hb1⟩;have hown1:=(hown.alloc _).below hb1;obtain ⟨z0,z1⟩:=pP wr (.string s.name) (.int .i64 s.type) 106;replace z0:=cQ hb1 z0;replace z1:=cQ hb1 z1;have z3:=keepA hb1 x3)
       | (at_lookup;refine dB _ rfl _ _ 220 rfl 9 4 law9 Tryz.underlying220 Tryz.underlying4 (zeroB _) _ _ _ rfl hown1 _ _ rfl hkey ?_;rw [HS.out])
       | (at_mapUpdate;refine eE _ rfl _ _ _ 220 rfl 9 4 law9 Tryz.underlying220 Tryz.underlying4 _ _ _ rfl hown1 (by unfold maxLen;omega) _ _ _ rfl rfl hkey trivial _ (oI ns s.name) (oH ns s.name) ?_;intro w2 hown2 hg2))
      go_roundw
      case rel=>
       have hsz1:=hb1.size;simp only [bK] at hsz1;exact ⟨k+1,s.name :: ns,by omega,by go_num,hown2,aH (((hB.out.alloc (by omega) _).trans (hb1.mono (by simp;omega))).trans (dN hg2 (by omega) (by omega))),HF⟩
      case measure=>simp [intOf];omega
  ·have HN:Hid (R=0):=aH (by rw [hr.out,bG (by omega)];rfl);have HF:Hid (Q=if b.args<0\/(b.locals.length:Int)<b.args then 3 else 0):=aH (by rw [<- HQ.out,HN.out,bD rfl]);clear hr hown;by_cases ha:b.args<0\/(b.locals.length:Int)<b.args
   ·rw [bD ha] at HF;go_wp2_with fail
    all_goals first
     | (exfalso;omega)
     | (go_ret;exact ⟨by rw [HF.out];rfl,mW hB.out⟩)
   ·rw [bB ha] at HF;have e1:¬b.args<0:=(by omega);have e2:¬(b.locals.length:Int)<b.args:=(by omega);clear ha;go_wp2_with fail
    go_ret;exact ⟨by rw [HF.out];rfl,mW hB.out⟩
end
section
open Go Go.RowKit
def BxC (w:World) (n:Nat) (b:Bdy) (bh:BH):Prop:=∀i v,(bdC b bh)[i]?=some v->w.cell? ⟨n,i,none⟩=some v
theorem BxC.new (w:World) (b:Bdy) (bh:BH):BxC (bxW w b bh) w.heap.size b bh:=fun i v hi=>nT (aZ _ _) i v hi
theorem BxC.keep {w w':World} {n:Nat} {b:Bdy} {bh:BH} (h:BxC w n b bh) (hb:Below w.heap.size w w'):BxC w' n b bh:=fun i v hi=>cQ hb (h i v hi)
theorem xAC (W:World) (x y z u:Int) (T:TypeId) (k:Nat) (hk:k=W.heap.size):Slc 1 RInt (W.alloc (.cells #[.int .i64 x,.int .i64 y,.int .i64 z,.int .i64 u] T)) (some ⟨k,0,none⟩) 4 [x,y,z,u]:=by
 subst hk;refine ⟨fun _=>⟨_,_,rfl,by simp,fun i q hi=>?_⟩,by simp,by omega⟩;show (W.alloc _).cell? ⟨W.heap.size,0+i * 1,none⟩=_;rw [World.cell?_alloc_at _ _ _ _ (by simp),Nat.zero_add,Nat.mul_one];match i,hi with
 | 0,hi=>simp at hi;subst hi;rfl
 | 1,hi=>simp at hi;subst hi;rfl
 | 2,hi=>simp at hi;subst hi;rfl
 | 3,hi=>simp at hi;subst hi;rfl
 | i+4,hi=>simp at hi
theorem xAM (b:Bdy) (bh:BH) (w:World) (H:BdAt w b bh):
 Calls Tryz.prog 78 #[.agg (bdC b bh).toArray] w fun e' w'=>e' = .returned (.int .i64 (declC b))/\Below w.heap.size w w':=by
 have HX:=aH (BxC.new w b bh);have HH:=aH H;have HB0:=aH (lZ w b bh);have r1:=H.reg.le;have r2:=H.reg.big;have b1:=H.blk.le;have b2:=H.blk.big;have HID:=aH (eW b.name (bxW w b bh));unfold declC;obtain ⟨Q,hQ⟩:∃Q,(if isIdent b.name=false then 12 else if firstE [namesC b.regions,pairsC b.regions.length b.outl,typesC b.regions.length b.types,localsC b]=0 then (if b.blocks.length=0\/65535<b.blocks.length then 15 else 0) else firstE [namesC b.regions,pairsC b.regions.length b.outl,typesC b.regions.length b.types,localsC b])=Q:=⟨_,rfl⟩;rw [hQ];have HQ:=aH hQ;clear hQ H;cases hid:isIdent b.name
 ·rw [hid] at HID HQ;have HF:Hid (Q=12):=aH HQ.out.symm;clear hid HQ;unfold bdC;go_enter Tryz.func78,Tryz.ntmps78
  go_wp2_with (go_at_call 111;refine HID.out.mono ?_;rintro e' w1 ⟨rfl,hb1⟩)
  go_ret;exact ⟨by rw [HF.out];rfl,HB0.out.trans (hb1.mono HB0.out.size)⟩
 rw [hid] at HID HQ;have HQ':Hid (Q=if firstE [namesC b.regions,pairsC b.regions.length b.outl,typesC b.regions.length b.types,localsC b]=0 then (if b.blocks.length=0\/65535<b.blocks.length then 15 else 0) else firstE [namesC b.regions,pairsC b.regions.length b.outl,typesC b.regions.length b.types,localsC b]):=aH HQ.out.symm;clear hid HQ;have HN:=aH (fun W (hb:Below w.heap.size w W)=>vN b.regions bh.A1 bh.c1 W (HH.out.keep hb).reg);have HP:=aH (fun W (hb:Below w.heap.size w W)=>mL b.outl b.regions.length bh.A2 bh.c2 W (HH.out.keep hb).out);have HT:=aH (fun W (hb:Below w.heap.size w W)=>sJ b.types b.regions.length bh.A3 bh.c3 W (HH.out.keep hb).typ);have HL:=aH (fun W (hb:Below w.heap.size w W)=>sY b bh W (HH.out.keep hb));generalize namesC b.regions=E1 at HN HQ';generalize pairsC b.regions.length b.outl=E2 at HP HQ';generalize typesC b.regions.length b.types=E3 at HT HQ';generalize localsC b=E4 at HL HQ';have HFI:=aH (fE [E1,E2,E3,E4]);generalize firstE [E1,E2,E3,E4]=E at HFI HQ';unfold bdC at HL ⊢;go_enter Tryz.func78,Tryz.ntmps78
 go_wp2_with (go_at_call 111;refine HID.out.mono ?_;rintro e' w1 ⟨rfl,hb1⟩;have x1:=HX.out.keep hb1 1 _ rfl)
 have hX1:BxC w1.drew w.heap.size b bh:=(HX.out.keep hb1).keep ((aZ _ _).drew);have hB1:Below w.heap.size w w1.drew:=(HB0.out.trans (hb1.mono HB0.out.size)).drew;have HB1:=aH hB1;have hS:=hX1;clear hX1 hB1 hb1;refine cZ (S:=fun X=>BxC X w.heap.size b bh) [0,1,3,4,5,7,8,9,11,2,6,10,12,13,14,15] (by kernel_rfl) ?_;(iterate 9 (refine cY (v:=?_) ?_ hS ?_;rotate_left;(next=>(rintro X hX;obtain ⟨s0,s1,s2,s3,s4,s5,s6⟩:=aU hX;(try simp only [aK]);go_simp;rfl));simp only [aO]));(refine cX (fun K1 hK1=>?_);simp only [aO];rw [bD (by rfl)];go_simp);refine (HN.out _ HB1.out).mono ?_;rintro e' w2 ⟨rfl,hb⟩;replace hS:=hS.keep hb;have HB2:=aH (HB1.out.trans (hb.mono HB1.out.size));clear hb HB1;refine hK1.out _ _ (fun _=>hS) ?_;clear HN;(refine cX (fun K1 hK1=>?_);simp only [aO];rw [bD (by rfl)];go_simp);refine (HP.out _ HB2.out).mono ?_;rintro e' w3 ⟨rfl,hb⟩;replace hS:=hS.keep hb;have HB3:=aH (HB2.out.trans (hb.mono HB2.out.size));clear hb HB2;refine hK1.out _ _ (fun _=>hS) ?_;clear HP;(refine cX (fun K1 hK1=>?_);simp only [aO];rw [bD (by rfl)];go_simp);refine (HT.out _ HB3.out).mono ?_;rintro e' w4 ⟨rfl,hb⟩;replace hS:=hS.keep hb;have HB4:=aH (HB3.out.trans (hb.mono HB3.out.size));clear hb HB3;refine hK1.out _ _ (fun _=>hS) ?_;clear HT;(refine cX (fun K1 hK1=>?_);simp only [aO];rw [bD (by rfl)];go_simp);refine (HL.out _ HB4.out).mono ?_;rintro e' w5 ⟨rfl,hb⟩;replace hS:=hS.keep hb;have HB5:=aH (HB4.out.trans (hb.mono HB4.out.size));clear hb HB4;refine hK1.out _ _ (fun _=>hS) ?_;clear HL;(refine cX (fun K1 hK1=>?_);simp only [aO];rw [bD (by rfl)];go_simp);have HNW:=aH (xAC w5 E1 E2 E3 E4 28 _ rfl);have hbn:Below w5.heap.size w5 (w5.alloc (.cells #[.int .i64 E1,.int .i64 E2,.int .i64 E3,.int .i64 E4] 28)):=(aZ _ _).alloc (bA _) _;replace hS:=hS.keep hbn;have HB6:=aH (HB5.out.trans (hbn.mono HB5.out.size));clear hbn;refine hK1.out _ _ (fun _=>hS) ?_;(refine cX (fun K1 hK1=>?_);simp only [aO];rw [bD (by rfl)];go_simp);refine (HFI.out _ 4 _ HNW.out).mono ?_;rintro e' w6 ⟨rfl,hw⟩;obtain rfl:=hw.symm;refine hK1.out _ _ (fun _=>hS) ?_;((refine cY (v:=?_) ?_ hS ?_;rotate_left;(next=>(rintro X hX;have s0:=hX 0 _ rfl;(try simp only [aK]);go_simp;rfl));simp only [aO]))
 refine dI ?_;have x6:=hS 6 _ rfl;clear hS HH HX HB0 HNW;by_cases he:E=0
 ·have HF:Hid (Q=if b.blocks.length=0\/65535<b.blocks.length then 15 else 0):=aH (by rw [HQ'.out,bD he]);subst he;clear HQ';obtain ⟨m,hm⟩:∃m,b.blocks.length=m:=⟨_,rfl⟩;rw [hm] at HF x6 b1;rw [hm];clear hm;by_cases hbl:m=0\/65535<m
  ·rw [bD hbl] at HF;rcases hbl with rfl | hbl
   ·go_wp2_with fail
    go_ret;exact ⟨by rw [HF.out];rfl,HB6.out⟩
   ·have e1:((m:Int) == 0)=false:=by simp;omega
    go_wp2_with fail
    go_ret;exact ⟨by rw [HF.out];rfl,HB6.out⟩
  ·rw [bB hbl] at HF;have e1:((m:Int) == 0)=false:=by simp;omega
   have e2:¬(65535:Int)<m:=by omega
   clear hbl;go_wp2_with fail
   go_ret;exact ⟨by rw [HF.out];rfl,HB6.out⟩
 ·have HF:Hid (Q=E):=aH (by rw [HQ'.out,bB he]);have e1:(E != 0)=true:=by simp [he]
  clear HQ';go_wp2_with fail
  go_ret;exact ⟨by rw [HF.out];rfl,HB6.out⟩
end
section
open Go Go.RowKit Go.Maps
theorem GI.but {w w':World} {base rel c lo:Nat} {M:Bool->Nat} {n:Int} {L:Bool->Int->List Int} {F:Bool->Int->Value} (h:GI w base rel M c n L F) (hr:lo<=rel) (hm:∀s,lo<=M s) (hk:∀k,lo<=k->k<w.heap.size->w'.heap[k]?=w.heap[k]?) (hs:w.heap.size<=w'.heap.size):GI w' base rel M c n L F:=
 ⟨(hk _ hr (Array.getElem?_eq_some_iff.1 h.head).1).trans h.head,fun s=>(h.maps s).block (hk _ (hm s) (h.maps s).lt),fun s x=>dC (h.rows s x) (fun k h1 h2 _=>hk k (by have:=h.lrel;omega) h2),h.apart,h.lrel,h.lmap,h.ne1,h.ne2,cA h.low hs⟩
def newP2 (n:Int) (pairs:List (Int × Int)) (w:World) (e':Ending) (w':World):Prop:=∃r0 M c F base,e' = .returned (.tuple #[.pointer (some ⟨r0,0,none⟩),.int .i64 0])/\GI w' base r0 M c n (relL pairs) F/\w.heap.size<=r0/\(∀s,w.heap.size<=M s)/\Below w.heap.size w w'
theorem vM (l:List (Int × Int)) (n:Int) (A:Option Addr) (c:Nat) (w:World) (hs:Slc 2 RPr w A c l) (hok:pairsC n l=0) (hn:n<=4611686018427387904):
 Calls Tryz.prog 82 #[.slice A l.length c,.int .i64 n] w (newP2 n l w):=by
 obtain ⟨hlen,hall⟩:=mM hok;have hle:=hs.le;have hbig:=hs.big;have HCH:=aH (mL l n A c w hs);rw [hok] at HCH;have HS:=aH hs;have HALL:=aH hall;clear hs hall hok;obtain ⟨i0,hi,hz0,hz1,hz2⟩:=info_parts dV;have hmm:= @run_makeMap Tryz.prog;go_enter Tryz.func82,Tryz.ntmps82
 go_wp2_with (go_at_call 114;refine HCH.out.mono ?_;rintro e' w1 ⟨rfl,hb1⟩;have HB1:=aH hb1;clear hb1)
 have HG0:Hid (GI (((w1.alloc (.map #[] 0)).alloc (.map #[] 0)).alloc (.cells #[.int .i64 n,.map (some w1.heap.size),.map (some (w1.heap.size+1))] 195)) (w1.heap.size+3) (w1.heap.size+2) (mapsAt w1.heap.size) 0 n (relL []) (fun _ _=>nilS)):=aH (by
  have b1:Below (w1.alloc (.map #[] 0)).heap.size (w1.alloc (.map #[] 0)) ((w1.alloc (.map #[] 0)).alloc (.map #[] 0)):=(aZ _ _).alloc (bA _) _;have b2:Below ((w1.alloc (.map #[] 0)).alloc (.map #[] 0)).heap.size ((w1.alloc (.map #[] 0)).alloc (.map #[] 0)) (((w1.alloc (.map #[] 0)).alloc (.map #[] 0)).alloc (.cells #[.int .i64 n,.map (some w1.heap.size),.map (some (w1.heap.size+1))] 195)):=(aZ _ _).alloc (bA _) _;have hnil:mapF (fun _=>nilS)=fun _=>nilS:=by funext x;cases x <;> (try rfl);rename_i q _;cases q <;> rfl
  refine ⟨?_,?_,fun s x=>?_,fun s x s' x' g h=>(by cases h),(by omega),fun s=>(by cases s <;> simp [mapsAt]),fun s=>(by cases s <;> simp [mapsAt]),(by simp [mapsAt]),(by simp)⟩
  ·exact kK _ _ _ (by simp)
  ·intro s;rw [hnil];cases s
   ·exact (OwnV.made w1 _ _ _).block ((b2.block _ (by simp;omega)).trans (b1.block _ (by simp)))
   ·have:=OwnV.made (w1.alloc (.map #[] 0)) Tryz.prog 3 nilS;simp only [bK] at this;exact this.block (b2.block _ (by simp))
  ·have:relL [] s x=[]:=by cases s <;> rfl
   rw [this]
   exact World.ownsRow_nil _ _ _ _)
 go_loopw [23] (fun v wr=>∃(k:Nat) (F:Bool->Int->Value),k<=l.length/\v = .int .i64 k/\Hid (GI wr (w1.heap.size+3) (w1.heap.size+2) (mapsAt w1.heap.size) (2 * k) n (relL (l.take k)) F)/\Hid (Below w1.heap.size w1 wr)) (fun v _=>l.length - (intOf v).toNat)
 case atStart=>exact ⟨0,_,by omega,rfl,HG0,aH ((((aZ _ _).alloc (bA _) _).alloc (by simp) _).alloc (by simp;omega) _)⟩
 case round=>
  clear HG0;obtain ⟨k,F,hk,rfl,HG,hB⟩:=hrel;by_cases hlt:k<l.length
  ·obtain ⟨b,o,rfl,hb,hx⟩:=(HS.out.keep RPr.keeps (HB1.out.trans (hB.out.mono HB1.out.size))).sl.at_ hlt;have HTK:Hid (relL (l.take (k+1))=updL (updL (relL (l.take k)) false l[k].1 (relL (l.take k) false l[k].1 ++ [l[k].2])) true l[k].2 (relL (l.take k) true l[k].2 ++ [l[k].1])):=aH (by rw [bH hlt,uM]);have hpp:=HALL.out l[k] (bO hlt);have HL1:=aH (kA (l.take k) false l[k].1);have HL2:=aH (kA (l.take k) true l[k].2);rw [cO] at HL1 HL2;obtain ⟨p,hp⟩:∃p,l[k]=p:=⟨_,rfl⟩;rw [hp] at hx HTK hpp HL1 HL2;obtain ⟨p1,p2⟩:=p;obtain ⟨x0,x1⟩:=hx;simp only at x0 x1 hpp HTK HL1 HL2;clear hp;generalize relL (l.take k)=L at HG HTK HL1 HL2;have key1:=key3 (a:=p1) (by omega) (by omega);have key2:=key3 (a:=p2) (by omega) (by omega);obtain ⟨W,hW⟩:∃W,wr.alloc (.cells #[.int .i64 p1,.int .i64 p2] 42)=W:=⟨_,rfl⟩;have hbw:Below wr.heap.size wr W:=by rw [<- hW];exact (aZ _ _).alloc (bA _) _
   have hWs:W.heap.size=wr.heap.size+1:=by rw [<- hW];simp
   have hP1:W.heap[wr.heap.size]?=some (.cells #[.int .i64 p1,.int .i64 p2] 42):=by rw [<- hW];exact Array.getElem?_push_size
   have HGW:=aH (HG.out.keep hbw);have HWS:=aH hWs;have HROW:=aH (fun s x k (hk:(F s x).ownBlock=some k)=>((HG.out.rows s x).lt k hk).2);have hB1:Below w1.heap.size w1 W:=hB.out.trans (hbw.mono hB.out.size);have hlo:=HG.out.low;clear HG hbw;go_wp2_with fail
   try rw [hW]
   have hrow1:∀k,(F false p1).ownBlock=some k->k<wr.heap.size:=HROW.out false p1;obtain ⟨r0,r1,r2⟩:=gY HGW.out.head;obtain ⟨p0,p1'⟩:=tN hP1;have hmap:=HGW.out.maps false;have hlook:∀X:World,X.heap[mapsAt w1.heap.size false]?=W.heap[mapsAt w1.heap.size false]?->(Instr.lookup 88 (.map (some (mapsAt w1.heap.size false))) (.int .i64 p1) false).run Tryz.prog X = .ok (F false p1) X:=fun X q=>(hmap.block q).look law3 Tryz.underlying88 (tG X) key1
   have hS:W.drew.heap[w1.heap.size+2]?=W.heap[w1.heap.size+2]?/\W.drew.heap[mapsAt w1.heap.size false]?=W.heap[mapsAt w1.heap.size false]?/\W.drew.heap[wr.heap.size]?=W.heap[wr.heap.size]?:=⟨rfl,rfl,rfl⟩;refine dJ (S:=fun X=>X.heap[w1.heap.size+2]?=W.heap[w1.heap.size+2]?/\X.heap[mapsAt w1.heap.size false]?=W.heap[mapsAt w1.heap.size false]?/\X.heap[wr.heap.size]?=W.heap[wr.heap.size]?) 17 [0,1,2,3,4,5,6,7,8,9,10,11,12,13,14,15,16,17] (by kernel_rfl) ?_;(iterate 15 (refine cY (v:=?_) ?_ hS ?_;rotate_left;(next=>(rintro X ⟨q1,q2,q3⟩;have s1:=(dO q1 1).trans r1;have s2:=(dO q1 2).trans r2;have s3:=(dO q3 0).trans p0;have s4:=(dO q3 1).trans p1';have e0:=hlook X q2;(try simp only [aK]);go_simp;rfl));simp only [aO]));(refine cX (fun K1 hK1=>?_);simp only [aO];rw [bD (by rfl)];go_simp);obtain ⟨W1,hW1⟩:∃X,(W.alloc (.cells #[.int .i64 p2] 3)).drew=X:=⟨_,rfl⟩;have hbW1:Below W.heap.size W W1:=by rw [<- hW1];exact ((aZ _ _).alloc (bA _) _).drew
   have hnews:∀j u,[Value.int .i64 p2][j]?=some u->W1.cell? ((⟨W.heap.size,0,none⟩:Addr).add j)=some u:=by rw [<- hW1];exact fun j u hj=>eD W _ _ _ rfl j u hj
   have hlz1:wr.heap.size<W.heap.size:=by omega
   have hm1:mapsAt w1.heap.size false<wr.heap.size:=by simp [mapsAt];omega
   try rw [hW1]
   refine hK1.out _ _ (fun _=>⟨hbW1.block _ (by omega),hbW1.block _ (by omega),hbW1.block _ hlz1⟩) ?_;(refine cX (fun K1 hK1=>?_);simp only [aO];rw [bD (by rfl)]);refine eS (.tmp 39) (.tmp 42) 48 rfl (w1.heap.size+3) 3 i0 (.int .i64 0) 1 8 Tryz.underlying48 hi hz0 hz1 hz2 rfl (by decide) (F false p1) _ _ rfl ((HGW.out.keep hbW1).rows false p1) ⟨W.heap.size,0,none⟩ 1 1 [.int .i64 p2] (by rw [HWS.out];rfl) rfl hnews (ints_oneCell .i64 [p2]) (by have:=HL1.out;unfold maxLen;omega) (by have:=HL1.out;omega) (by have:=hbW1.size;omega) ?_;intro v1 W2 hown1 hgrow1 hloc1;have hk1:∀k,k<W.heap.size->some k≠(F false p1).ownBlock->W2.heap[k]?=W.heap[k]?:=fun k hk hr=>(hgrow1.block k (bP hk hbW1.size) hr).trans (hbW1.block k hk)
   have hlow1:∀k,k<w1.heap.size+3->some k≠(F false p1).ownBlock:=fun k hk e=>by have:=((HGW.out.rows false p1).lt k e.symm).1;omega
   have hpb1:W2.heap[wr.heap.size]?=W.heap[wr.heap.size]?:=hk1 _ hlz1 (fun e=>by have:=hrow1 _ e.symm;omega);have hmb1:W2.heap[mapsAt w1.heap.size false]?=W.heap[mapsAt w1.heap.size false]?:=hk1 _ (by omega) (hlow1 _ (by simp [mapsAt]));refine hK1.out _ _ (fun _=>⟨hk1 _ (by omega) (hlow1 _ (by omega)),hmb1,hpb1⟩) ?_;(refine cX (fun K1 hK1=>?_);simp only [aO];rw [bD (by rfl)]);obtain ⟨W2',hrun1,hmp1,hg1⟩:=(hmap.block hmb1).store law3 Tryz.underlying88 (by unfold maxLen;omega) key1 trivial v1 (f':=mapF (updF F false p1 v1 false)) (by simp [mapF,updF]) (rT (fun y hy=>by simp [updF,hy]));refine nY (.tmp 30) (.tmp 32) (.tmp 43) 88 rfl rfl rfl rfl hrun1 ?_;refine hK1.out _ _ (fun h=>absurd h (by decide)) ?_;refine dI ?_;have HG2:=aH ((HGW.out.keep hbW1).step false p1 p2 v1 hown1 hgrow1 hloc1 hmp1 hg1);have hP2:W2'.heap[wr.heap.size]?=some (.cells #[.int .i64 p1,.int .i64 p2] 42):=((hg1.block _ (bP hlz1 (cA hbW1.size hgrow1.size)) (by simp;omega)).trans hpb1).trans hP1
   have hB2:Below w1.heap.size w1 W2':=by
    have ha:Below w1.heap.size w1 W1:=hB1.trans (hbW1.mono hB1.size);have hc:=ha.grown hgrow1 ha.size (fun k hk=>by have:=((HGW.out.rows false p1).lt k hk).1;omega);exact hc.grown hg1 hc.size (fun k hk=>by injection hk with hk;subst hk;simp [mapsAt])
   have hlt2:wr.heap.size<W2'.heap.size:=bP hlz1 (cA hbW1.size (cA hgrow1.size hg1.size));clear hS hlook hmap r0 r1 r2 p0 p1' hnews hown1 hgrow1 hloc1 hmp1 hg1 hrun1 hk1 hlow1 hpb1 hmb1 hbW1 hK1;go_wp2_with fail
   have HL2':Hid ((updL L false p1 (L false p1 ++ [p2]) true p2).length<=min k l.length):=aH (by simp only [updL,Bool.true_eq_false,false_and,if_false];exact HL2.out);have hrow2:∀k,((updF F false p1 v1) true p2).ownBlock=some k->k<wr.heap.size:=HROW.out true p2;obtain ⟨r0,r1,r2⟩:=gY HG2.out.head;obtain ⟨p0,p1'⟩:=tN hP2;have hmap:=HG2.out.maps true;have hlook:∀X:World,X.heap[mapsAt w1.heap.size true]?=W2'.heap[mapsAt w1.heap.size true]?->(Instr.lookup 88 (.map (some (mapsAt w1.heap.size true))) (.int .i64 p2) false).run Tryz.prog X = .ok ((updF F false p1 v1) true p2) X:=fun X q=>(hmap.block q).look law3 Tryz.underlying88 (tG X) key2
   have hS:W2'.drew.heap[w1.heap.size+2]?=W2'.heap[w1.heap.size+2]?/\W2'.drew.heap[mapsAt w1.heap.size true]?=W2'.heap[mapsAt w1.heap.size true]?/\W2'.drew.heap[wr.heap.size]?=W2'.heap[wr.heap.size]?:=⟨rfl,rfl,rfl⟩;refine dJ (S:=fun X=>X.heap[w1.heap.size+2]?=W2'.heap[w1.heap.size+2]?/\X.heap[mapsAt w1.heap.size true]?=W2'.heap[mapsAt w1.heap.size true]?/\X.heap[wr.heap.size]?=W2'.heap[wr.heap.size]?) 17 [0,1,2,3,4,5,6,7,8,9,10,11,12,13,14,15,16,17] (by kernel_rfl) ?_;(iterate 15 (refine cY (v:=?_) ?_ hS ?_;rotate_left;(next=>(rintro X ⟨q1,q2,q3⟩;have s1:=(dO q1 1).trans r1;have s2:=(dO q1 2).trans r2;have s3:=(dO q3 0).trans p0;have s4:=(dO q3 1).trans p1';have e0:=hlook X q2;(try simp only [aK]);go_simp;rfl));simp only [aO]));(refine cX (fun K1 hK1=>?_);simp only [aO];rw [bD (by rfl)];go_simp);obtain ⟨W3,hW3⟩:∃X,(W2'.alloc (.cells #[.int .i64 p1] 3)).drew=X:=⟨_,rfl⟩;have hbW3:Below W2'.heap.size W2' W3:=by rw [<- hW3];exact ((aZ _ _).alloc (bA _) _).drew
   have hnews:∀j u,[Value.int .i64 p1][j]?=some u->W3.cell? ((⟨W2'.heap.size,0,none⟩:Addr).add j)=some u:=by rw [<- hW3];exact fun j u hj=>eD W2' _ _ _ rfl j u hj
   have hlz2:wr.heap.size<W2'.heap.size:=by exact hlt2
   have hm2:mapsAt w1.heap.size true<wr.heap.size:=by simp [mapsAt];omega
   try rw [hW3]
   refine hK1.out _ _ (fun _=>⟨hbW3.block _ (by omega),hbW3.block _ (by omega),hbW3.block _ hlz2⟩) ?_;(refine cX (fun K1 hK1=>?_);simp only [aO];rw [bD (by rfl)]);refine eS (.tmp 56) (.tmp 59) 48 rfl (w1.heap.size+3) 3 i0 (.int .i64 0) 1 8 Tryz.underlying48 hi hz0 hz1 hz2 rfl (by decide) ((updF F false p1 v1) true p2) _ _ rfl ((HG2.out.keep hbW3).rows true p2) ⟨W2'.heap.size,0,none⟩ 1 1 [.int .i64 p1] rfl rfl hnews (ints_oneCell .i64 [p1]) (by have:=HL2'.out;unfold maxLen;omega) (by have:=HL2'.out;omega) (by have:=hbW3.size;omega) ?_;intro v2 W4 hown2 hgrow2 hloc2;have hk2:∀k,k<W2'.heap.size->some k≠((updF F false p1 v1) true p2).ownBlock->W4.heap[k]?=W2'.heap[k]?:=fun k hk hr=>(hgrow2.block k (bP hk hbW3.size) hr).trans (hbW3.block k hk)
   have hlow2:∀k,k<w1.heap.size+3->some k≠((updF F false p1 v1) true p2).ownBlock:=fun k hk e=>by have:=((HG2.out.rows true p2).lt k e.symm).1;omega
   have hpb2:W4.heap[wr.heap.size]?=W2'.heap[wr.heap.size]?:=hk2 _ hlz2 (fun e=>by have:=hrow2 _ e.symm;omega);have hmb2:W4.heap[mapsAt w1.heap.size true]?=W2'.heap[mapsAt w1.heap.size true]?:=hk2 _ (by omega) (hlow2 _ (by simp [mapsAt]));refine hK1.out _ _ (fun _=>⟨hk2 _ (by omega) (hlow2 _ (by omega)),hmb2,hpb2⟩) ?_;(refine cX (fun K1 hK1=>?_);simp only [aO];rw [bD (by rfl)]);obtain ⟨W4',hrun2,hmp2,hg2⟩:=(hmap.block hmb2).store law3 Tryz.underlying88 (by unfold maxLen;omega) key2 trivial v2 (f':=mapF (updF (updF F false p1 v1) true p2 v2 true)) (by simp [mapF,updF]) (rT (fun y hy=>by simp [updF,hy]));refine nY (.tmp 47) (.tmp 49) (.tmp 60) 88 rfl rfl rfl rfl hrun2 ?_;refine hK1.out _ _ (fun h=>absurd h (by decide)) ?_;refine dI ?_;have HG3:=aH ((HG2.out.keep hbW3).step true p2 p1 v2 hown2 hgrow2 hloc2 hmp2 hg2);have hP3:W4'.heap[wr.heap.size]?=some (.cells #[.int .i64 p1,.int .i64 p2] 42):=((hg2.block _ (bP hlz2 (cA hbW3.size hgrow2.size)) (by simp;omega)).trans hpb2).trans hP2
   have hB3:Below w1.heap.size w1 W4':=by
    have ha:Below w1.heap.size w1 W3:=hB2.trans (hbW3.mono hB2.size);have hc:=ha.grown hgrow2 ha.size (fun k hk=>by have:=((HG2.out.rows true p2).lt k hk).1;omega);exact hc.grown hg2 hc.size (fun k hk=>by injection hk with hk;subst hk;simp [mapsAt])
   have hlt2:wr.heap.size<W4'.heap.size:=bP hlz2 (cA hbW3.size (cA hgrow2.size hg2.size));clear hS hlook hmap r0 r1 r2 p0 p1' hnews hown2 hgrow2 hloc2 hmp2 hg2 hrun2 hk2 hlow2 hpb2 hmb2 hbW3 hK1;go_wp2_with fail
   have hLL:updL L false p1 (L false p1 ++ [p2]) true p2=L true p2:=by simp [updL]
   have hG3:=HG3.out;rw [hLL,<- HTK.out] at hG3;exact ⟨⟨k+1,_,by omega,by go_num,aH hG3,aH hB3⟩,by simp [intOf];omega⟩
  ·have hke:l.take k=l:=List.take_of_length_le (by omega);have HR:=HG;rw [hke] at HR;clear HG;go_wp2_with fail
   refine bodyPost_ret (v:= .tuple #[.pointer (some ⟨w1.heap.size+2,0,none⟩),.int .i64 0]) (by simp [results,Tryz.results82,go_sem] <;> rfl) rfl ⟨_,_,_,_,_,rfl,HR.out,by have:=HB1.out.size;omega,fun s=>by have:=HB1.out.size;cases s <;> simp [mapsAt] <;> omega,HB1.out.trans (hB.out.mono HB1.out.size)⟩
end
section
open Go Go.RowKit Go.Sort
theorem qI {zs:List Int} (hs:zs.Pairwise (· <= ·)):Srt (Lib.compact zs) (fun x=>x∈zs):=by
 have key:∀m,m<=zs.length->(Lib.compactUpTo zs.toArray m).Pairwise (· < ·)/\∀x,x∈Lib.compactUpTo zs.toArray m↔∃j,j<m/\zs[j]?=some x:=by
  intro m;induction m with
  | zero=>exact fun _=>⟨by simp [Lib.compactUpTo],fun x=>by simp [Lib.compactUpTo]⟩
  | succ m ih=>
    intro hm;obtain ⟨h1,h2⟩:=ih (by omega);have hg:∀j (h:j<zs.length),zs.toArray[j]! = zs[j]:=fun j h=>by simp [h]
    have hmo:∀i j (hi:i<j) (hj:j<zs.length),zs[i]<=zs[j]:=fun i j hi hj=>List.pairwise_iff_getElem.1 hs i j (by omega) hj hi
    rw [Lib.compactUpTo_succ]
    have hnew:∀x,(∃j,j<m+1/\zs[j]?=some x)↔(∃j,j<m/\zs[j]?=some x)\/zs[m]?=some x:=fun x=>by
     constructor
     ·rintro ⟨j,hj,e⟩;by_cases e':j=m
      ·subst e';exact .inr e
      ·exact .inl ⟨j,by omega,e⟩
     ·rintro (⟨j,hj,e⟩ | e)
      ·exact ⟨j,by omega,e⟩
      ·exact ⟨m,by omega,e⟩
    have hgm:=bF (show m<zs.length by omega);by_cases hk:Lib.keeps zs.toArray m=true
    ·rw [bD hk,hg m (by omega)];refine ⟨gU h1 (fun y hy=>?_),fun x=>?_⟩
     ·obtain ⟨j,hj,e⟩:=(h2 y).1 hy;rw [bF (by omega)] at e;injection e with e
      have a1:=hmo j m hj (by omega);rcases Nat.eq_or_lt_of_le (show j+1<=m by omega) with e2 | e2
      ·have:zs.toArray[m]! ≠ zs.toArray[m - 1]! := fun e3=>by rw [Lib.keeps_neg (by omega) e3] at hk;cases hk
       rw [hg m (by omega),hg (m - 1) (by omega)] at this;have e4:m - 1=j:=(by omega);simp only [e4] at this;omega
      ·have a2:=hmo j (m - 1) (by omega) (by omega);have a3:=hmo (m - 1) m (by omega) (by omega);have:zs.toArray[m]! ≠ zs.toArray[m - 1]! := fun e3=>by rw [Lib.keeps_neg (by omega) e3] at hk;cases hk
       rw [hg m (by omega),hg (m - 1) (by omega)] at this;omega
     ·rw [hnew,cL,h2,hgm,bU];simp only [cK];exact or_congr Iff.rfl eq_comm
    ·rw [bB hk,List.append_nil]
     have hm0:0<m:=by
      apply Classical.byContradiction
      intro h0;have:m=0:=by omega
      subst this;exact hk (Lib.keeps_lt_one _ 0 (by omega))
     have he:zs[m]'(by omega)=zs[m - 1]'(by omega):=by
      apply Classical.byContradiction
      intro hne;exact hk (Lib.keeps_pos (by rw [hg m (by omega),hg (m - 1) (by omega)];exact hne))
     refine ⟨h1,fun x=>?_⟩;rw [hnew,h2,hgm,he];constructor
     ·exact .inl
     ·rintro (h | h)
      ·exact h
      ·exact ⟨m - 1,by omega,by rw [bF (by omega)];exact h⟩
 obtain ⟨h1,h2⟩:=key zs.length (bA _);refine ⟨h1,fun x=>(h2 x).trans ?_⟩;show _↔x∈zs;rw [List.mem_iff_getElem?];exact ⟨fun ⟨j,_,e⟩=>⟨j,e⟩,fun ⟨j,e⟩=>⟨j,(List.getElem?_eq_some_iff.1 e).1,e⟩⟩
theorem rS (zs:List Int):(zs.mergeSort fun x y=>decide (x<=y)).Pairwise (· <= ·):=
 (List.pairwise_mergeSort (fun a b c h1 h2=>by simp only [decide_eq_true_eq] at *;omega) (fun a b=>by simp only [Bool.or_eq_true,decide_eq_true_eq];omega) zs).imp (fun h=>by simpa using h)
theorem nG (W:World) (base n:Nat) (v:Value) (zs:List Int) (h:W.ownsRow base 3 1 v n (zs.map (Value.int .i64))) (hn:zs.length=n) (hsz:n<4611686018427387904):
 Calls Tryz.prog 130 #[v] W fun e w'=>e = .returned (.tuple #[])/\w'.ownsRow base 3 1 v n ((zs.mergeSort fun x y=>decide (x<=y)).map (Value.int .i64))/\W.grownBy w' v.ownBlock:=by
 subst hn;rcases h.2 with ⟨rfl,hz⟩ | ⟨g,cap,cur,rfl,hb,hh,hnc,hcm,hcs,htk⟩
 ·have hz2:=bW hz;subst hz2;refine (Tryz.slices_Sort_int_none none 0 W).mono ?_;rintro e w' ⟨rfl,rfl⟩;exact ⟨rfl,by simpa using h,⟨rfl,rfl,rfl,bA _,fun _ _ _=>rfl⟩⟩
 ·have hold:=holds_of_blockI (ss:=zs) hh (by simpa using htk);refine (Tryz.slices_Sort_int g 0 cap zs W hold (Array.getElem?_eq_some_iff.1 hh).1 hsz).mono ?_;rintro e w' ⟨rfl,q,os,rfl⟩;exact ⟨rfl,ownsRow_sortedI (by simp) hb hh hnc hcm hcs,grownBy_sortedI _⟩
theorem lW (W:World) (base n:Nat) (v:Value) (zs:List Int) (h:W.ownsRow base 3 1 v n (zs.map (Value.int .i64))) (hn:zs.length=n) (hs:zs.Pairwise (· <= ·)):
 Calls Tryz.prog 131 #[v] W fun e w'=>∃A c s,e = .returned (.slice A s.length c)/\Srt s (fun x=>x∈zs)/\Slc 1 RInt w' A c s/\(∀a,A=some a->base<=a.block)/\W.grownBy w' v.ownBlock:=by
 subst hn;have hsrt:=qI hs;rcases h.2 with ⟨rfl,hz⟩ | ⟨g,cap,cur,rfl,hb,hh,hnc,hcm,hcs,htk⟩
 ·have hz2:=bW hz;subst hz2;refine (Tryz.slices_Compact_int_empty none 0 W).mono ?_;rintro e w' ⟨rfl,rfl⟩;exact ⟨none,0,[],rfl,⟨List.Pairwise.nil,fun x=>Iff.rfl⟩,⟨Sl.nil,by simp,by omega⟩,(fun a h=>by cases h),⟨rfl,rfl,rfl,bA _,fun _ _ _=>rfl⟩⟩
 ·have hold:=holds_of_blockI (ss:=zs) hh (by simpa using htk);have hcm':cap<=9223372036854775807:=by simpa [maxLen] using hcm
  have hcl:=Lib.compact_length_le zs;refine (Tryz.slices_Compact_int g 0 cap zs W hold (by omega) hnc).mono ?_;rintro e w' ⟨rfl,q,rfl⟩;have hl3:(Lib.compact zs ++ List.replicate (zs.length - (Lib.compact zs).length) 0).length=zs.length:=by simp;omega
  have ho:=ownsRow_sortedI (w:=W) (base:=base) (g:=g) (cap:=cap) (n:=q) (e:=3) (os:= #[]) (cur:=cur) (ss:=zs) (ts:=Lib.compact zs ++ List.replicate (zs.length - (Lib.compact zs).length) 0) hl3 hb hh hnc hcm hcs;have hg:=grownBy_sortedI (w:=W) (g:=g) (n:=q) (os:= #[]) (Lib.compact zs ++ List.replicate (zs.length - (Lib.compact zs).length) 0).toArray;rw [grow_empty] at ho hg;obtain ⟨A',c',hv,hs3,hlo⟩:=gR (R:=RInt) (enc:=Value.int .i64) (fun w B b o x h=>h) ho hl3;injection hv with hv1 _ hv2
  subst hv1 hv2;refine ⟨_,_,_,rfl,hsrt,⟨?_,by omega,hs3.big⟩,fun a h=>(hlo a h).1,hg⟩;have h1:=hs3.sl.take (Lib.compact zs).length;rwa [List.take_append_of_le_length (by simp),List.take_of_length_le (by simp)] at h1
end
end Go.Proofs.YtkaigkfbkpinlaaGreatDoor
