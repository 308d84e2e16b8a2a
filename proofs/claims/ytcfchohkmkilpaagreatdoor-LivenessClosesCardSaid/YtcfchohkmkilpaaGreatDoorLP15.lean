/-
  Parts of the proof: V63 V49 V50 V64 V65 V66.
-/
import Derived.Test.YtcfchohkmkilpaaGreatDoorLP0
import Derived.Test.YtcfchohkmkilpaaGreatDoorLP14
import Derived.Test.YtcfchohkmkilpaaGreatDoorLP6
import Derived.Test.YtcfchohkmkilpaaGreatDoorLP9
import Derived.Test.YtcfchohkmkilpaaGreatDoorLP13
import Derived.Test.YtcfchohkmkilpaaGreatDoorLP3
import Derived.Deep.DeepCutAuto
namespace Go.Proofs.YtcfchohkmkilpaaGreatDoor
set_option maxRecDepth 100000
set_option maxHeartbeats 16000000
section
open Go Go.RowKit Go.Shelf
def refsD (t:Ty):List Int:=if t.kind=3 then [t.elem] else t.flds
theorem qJ:∀{d:List Int} {a k:Int} {l:List Int},depF d a l=some k->a<=k
 | _,_,_,[],h=>by injection h with h;omega
 | d,a,k,i :: r,h=>by
   unfold depF at h;split at h
   ·cases h
   ·split at h
    ·cases h
    ·have:=qJ h;omega
theorem xK (d:List Int) (t:Ty):0<=depK d t:=by
 unfold depK;cases h:depF d 0 (if t.kind=3 then [t.elem] else t.flds) with
 | none=>simp
 | some k=>exact qJ h
theorem oB:∀{d:List Int} {l:List Ty},(∀y∈d,0<=y)->∀y∈depsN d l,0<=y
 | _,[],h=>h
 | d,t :: r,h=>oB (d:=d ++ [depK d t+1]) (l:=r) (fun y hy=>by
   rcases List.mem_append.1 hy with e | e
   ·exact h y e
   ·rw [bR] at e;have:=xK d t
    omega)
def OkD (ts:List Ty) (n:Nat):Prop:=∀i (h:i<ts.length),i<n->∃K,depF (depsN [] (ts.take i)) 0 (refsD ts[i])=some K/\K<=1000/\(ts[i].kind=3->ts[i].flds=[])
theorem oD {d:List Int} {a K f:Int} {r:List Int} (h:depF d a (f :: r)=some K):∃g:Nat,f=g/\∃x,d[g]?=some x/\depF d (max a x) r=some K:=by
 unfold depF at h;split at h
 ·cases h
 ·next h0=>
  split at h
  ·cases h
  ·next x hx=>exact ⟨f.toNat,by omega,x,hx,h⟩
theorem gL {α : Type} {l:List α} {m:Nat} (h:m<l.length):l.drop m=l[m] :: l.drop (m+1):=cH h
theorem kM (ts:List Ty) (n:Nat) (A:Option Addr) (c:Nat) (w:World) (hs:Slc 5 RTy w A c ts) (hn:n<=ts.length) (h64:n<=100000) (hok:OkD ts n):
 Calls Tryz.prog 72 #[.slice A ts.length c,.int .i64 n] w fun e' w'=>(∃A' c',e' = .returned (.slice A' n c')/\Slc 1 RInt w' A' c' (depsN [] (ts.take n)))/\Below w.heap.size w w':=by
 have hle:=hs.le;have hbig:=hs.big;have HOK:=aF hok;have HS:=aF hs;clear hok hs;obtain ⟨i0,hi,hz0,hz1,hz2⟩:=info_parts dU;go_enter Tryz.func72,Tryz.ntmps72
 go_wp2
 go_loopw [5,6] (fun v u wr=>∃(i:Nat) (ds:List Int),i<=n/\u = .int .i64 i/\ds.length=i/\Hid (ds=depsN [] (ts.take i))/\wr.ownsRow w.heap.size 3 1 v ds.length (ds.map (Value.int .i64))/\Below w.heap.size w wr) (fun _ u _=>n - (intOf u).toNat)
 case atStart=>exact ⟨0,[],by omega,rfl,rfl,aF rfl,World.ownsRow_nil _ _ _ _,aX _ _⟩
 case round=>
  obtain ⟨i,ds,hin,rfl,hds,hde,hown,hB⟩:=hrel;by_cases hlt:i<n
  ·have hil:i<ts.length:=by omega
   obtain ⟨b1,o1,rfl,hb1,r0⟩:=HS.out.sl.at_ hil;obtain ⟨r1,r2,r3,r4,A2,c2,r5,r6,r7,r8⟩:=RTy.keeps _ _ _ w.heap.size _ _ _ (aY _) hb1 hB r0;obtain ⟨K,hK,hK1,hK3⟩:=HOK.out i hil hlt;have HPOS:=aF (fun y hy=>oB (d:=[]) (l:=ts.take i) (by simp) y hy)
   have HNX:Hid (depsN [] (ts.take (i+1))=ds ++ [K+1]):=aF (by
    rw [bF hil,gS,<- hde.out];unfold depK;rw [hde.out];unfold refsD at hK;rw [hK]
    rfl)
   rw [<- hde.out] at hK HPOS;have hK0:0<=K:=qJ hK;have HK:=aF hK;have HK3:=aF hK3;obtain ⟨A3,c3,rfl,hsl⟩:=dB hown;have hdle:=hsl.le;have hdbig:=hsl.big;have HO:=aF hown;have HL:=aF hds;rw [hds] at hdle ⊢;generalize ts[i]=x at *;clear r0 hde hK hK3
   have hcell:Hid (∀(f:Nat) y,ds[f]?=some y->∃b4 o4,A3=some ⟨b4,o4,none⟩/\wr.cell? ⟨b4,o4+f,none⟩=some (.int .i64 y)):=aF (fun f y hf=>by
    have hfl:=(List.getElem?_eq_some_iff.1 hf).1;obtain ⟨b4,o4,hA4,hb4,hr4⟩:=hsl.sl (by omega);have:=hr4 f _ hf;unfold RInt at this;rw [Nat.mul_one] at this
    exact ⟨b4,o4,hA4,this⟩)
   have hfl:Hid (∀j (h:j<x.flds.length),∃(b3 o3:Nat),A2=some ⟨b3,o3,none⟩/\wr.cell? ⟨b3,o3+j,none⟩=some (.int .i64 x.flds[j])):=aF (fun j h=>by
    obtain ⟨b3,o3,hA3,hb3,hr3⟩:=r8.at_ h;unfold RInt at hr3;rw [Nat.mul_one] at hr3
    exact ⟨b3,o3,hA3,hr3⟩)
   clear r8 hsl hown hds;by_cases hkd:x.kind=3
   ·have hk2:(x.kind == 3)=true:=by simp [hkd]
    have HFN:Hid (x.flds=[]):=aF (HK3.out hkd);have h1:=HK.out;unfold refsD at h1;rw [bA hkd] at h1;obtain ⟨f,he,y,hy,h2⟩:=oD h1;injection h2 with h2
    have hyp:=HPOS.out y (List.mem_of_getElem? hy);have hyK:y=K:=(by omega);subst hyK;have hfi:f<i:=by have:=(List.getElem?_eq_some_iff.1 hy).1;have:=HL.out;omega
    obtain ⟨b4,o4,rfl,hyc⟩:=hcell.out f y hy;rw [he] at r4;clear hkd h1 hy he h2;go_wp2
    go_loopw [7,8] (fun a j wr'=>wr'=wr/\a = .int .i64 y/\j = .int .i64 0) (fun _ j _=>x.flds.length - (intOf j).toNat)
    case atStart=>exact ⟨rfl,rfl,rfl⟩
    case round=>
     obtain ⟨rfl,rfl,rfl⟩:=hrel;have hown1:=HO.out;rw [HL.out] at hown1;have hown2:=hown1.alloc (.cells #[.int .i64 (y+1)] 3);have hsz:=hB.size;have hl0:x.flds.length=0:=by rw [HFN.out];rfl
     rw [hl0] at r5;clear hfl hcell;have e64:wrap64 (y+1)=y+1:=by unfold wrap64;omega
     go_wp2_with (at_builtin;refine wpList_append_own _ rfl _ _ 34 rfl w.heap.size 3 i0 (.int .i64 0) 1 8 Tryz.underlying34 hi hz0 hz1 hz2 rfl (by decide) _ _ _ rfl hown2 ⟨wr.heap.size,0,none⟩ 1 1 [.int .i64 (y+1)] rfl rfl ?c1 ?c2 ?c3 ?c4 ?c5 ?_)
     case c1=>
      intro j u hj;match j,hj with
      | 0,hj=>
        simp at hj;subst hj;rw [add0];go_simp
     case c2=>intro u hu;simp at hu;subst hu;rfl
     case c3=>unfold maxLen;omega
     case c4=>omega
     case c5=>simp;omega
     intro v' w3 hown' hgrow _;have hB3:Below w.heap.size w w3:=(hB.alloc hsz _).grown hgrow (by simp;omega) (fun g hg=>(hown2.lt g hg).1)
     have hown3:Hid (w3.ownsRow w.heap.size 3 1 v' (ds ++ [y+1]).length ((ds ++ [y+1]).map (Value.int .i64))):=aF (by
      rw [bB,cG,HL.out,bS]
      exact hown')
     clear hown' hgrow hown2 hown1 hB r1 r2 r3 r4 r5;go_wp2
     go_roundw
     case rel=>exact ⟨i+1,ds ++ [y+1],by omega,by go_num,by rw [bB,HL.out];rfl,aF HNX.out.symm,hown3.out,hB3⟩
     case measure=>simp [intOf];omega
   ·have hk2:(x.kind == 3)=false:=by simp [hkd]
    have HF0:=HK.out;unfold refsD at HF0;rw [aZ hkd] at HF0;have HF:=aF HF0;clear hkd HF0;go_wp2
    go_loopw [7,8] (fun a j wr'=>wr'=wr/\∃(y:Int) (m:Nat),m<=x.flds.length/\a = .int .i64 y/\j = .int .i64 m/\Hid (depF ds y (x.flds.drop m)=some K)) (fun _ j _=>x.flds.length - (intOf j).toNat)
    case atStart=>exact ⟨rfl,_,0,by omega,rfl,rfl,aF HF.out⟩
    case round=>
     obtain ⟨rfl,y,m,hm,rfl,rfl,HY⟩:=hrel;by_cases hlt3:m<x.flds.length
     ·obtain ⟨b3,o3,rfl,hc3⟩:=hfl.out m hlt3;have h1:=HY.out;rw [gL hlt3] at h1;obtain ⟨f,he,y2,hy2,h2⟩:=oD h1;have hfi:f<i:=by have:=(List.getElem?_eq_some_iff.1 hy2).1;have:=HL.out;omega
      obtain ⟨b4,o4,rfl,hyc⟩:=hcell.out f y2 hy2;rw [he] at hc3;have HY2:=aF h2;clear hfl hcell h1 he hy2 h2;go_wp2
      all_goals
       go_roundw
       case rel=>exact ⟨trivial,_,m+1,by omega,rfl,by go_num,aF (by have:=HY2.out;first | exact this | (rw [Int.max_def] at this;split at this <;> first | exact this | omega))⟩
       case measure=>simp [intOf];omega
     ·have hme:m=x.flds.length:=(by omega);subst hme
      have hyK:y=K:=by
       have:=HY.out;rw [List.drop_length] at this;injection this
      subst hyK;have hown1:=HO.out;rw [HL.out] at hown1;have hown2:=hown1.alloc (.cells #[.int .i64 (y+1)] 3);have hsz:=hB.size;clear hfl hcell;have e64:wrap64 (y+1)=y+1:=by unfold wrap64;omega
      go_wp2_with (at_builtin;refine wpList_append_own _ rfl _ _ 34 rfl w.heap.size 3 i0 (.int .i64 0) 1 8 Tryz.underlying34 hi hz0 hz1 hz2 rfl (by decide) _ _ _ rfl hown2 ⟨wr.heap.size,0,none⟩ 1 1 [.int .i64 (y+1)] rfl rfl ?c1 ?c2 ?c3 ?c4 ?c5 ?_)
      case c1=>
       intro j u hj;match j,hj with
       | 0,hj=>
         simp at hj;subst hj;rw [add0];go_simp
      case c2=>intro u hu;simp at hu;subst hu;rfl
      case c3=>unfold maxLen;omega
      case c4=>omega
      case c5=>simp;omega
      intro v' w3 hown' hgrow _;have hB3:Below w.heap.size w w3:=(hB.alloc hsz _).grown hgrow (by simp;omega) (fun g hg=>(hown2.lt g hg).1)
      have hown3:Hid (w3.ownsRow w.heap.size 3 1 v' (ds ++ [y+1]).length ((ds ++ [y+1]).map (Value.int .i64))):=aF (by
       rw [bB,cG,HL.out,bS]
       exact hown')
      clear hown' hgrow hown2 hown1 hB r1 r2 r3 r4 r5;go_wp2
      go_roundw
      case rel=>exact ⟨i+1,ds ++ [y+1],by omega,by go_num,by rw [bB,HL.out];rfl,aF HNX.out.symm,hown3.out,hB3⟩
      case measure=>simp [intOf];omega
  ·have hie:i=n:=by omega
   subst hie;rw [hds] at hown;obtain ⟨A2,c2,rfl,hsl⟩:=dB (ys:=ds) (by rw [hds];exact hown);have HL:=aF hds;rw [hds];have HD:=aF hsl;clear hown hsl hds;go_wp2
   go_ret;exact ⟨⟨A2,c2,rfl,by rw [<- hde.out];exact HD.out⟩,hB⟩
end
section
open Go Go.RowKit
theorem zR (s t:Ty) (A B:Option Addr) (c d:Nat) (w:World) (hs:Slc 1 RInt w A c s.flds) (ht:Slc 1 RInt w B d t.flds):
 Calls Tryz.prog 143 #[tyAgg s A c,tyAgg t B d] w fun e' w'=>e' = .returned (.bool (decide (s=t)))/\Below w.heap.size w w':=by
 have hle:=hs.le;have hbig:=hs.big;have hle2:=ht.le;have hbig2:=ht.big;have HA:=aF hs;have HB:=aF ht;obtain ⟨k,mu,rg,el,fl⟩:=s;obtain ⟨k2,mu2,rg2,el2,fl2⟩:=t;simp only at HA HB hle hle2;clear hs ht;unfold tyAgg;simp only;obtain ⟨R,hR⟩:∃R,decide ((⟨k,mu,rg,el,fl⟩:Ty)=⟨k2,mu2,rg2,el2,fl2⟩)=R:=⟨_,rfl⟩;rw [hR]
 have HR:Hid (R=(decide (k=k2) && decide (mu=mu2) && decide (rg=rg2) && decide (el=el2) && decide (fl=fl2))):=aF (by
  rw [<- hR,bQ]
  simp [and_assoc])
 clear hR;have HB0:=aF (bel2 w);by_cases h1:k=k2
 case neg=>
  have HF:Hid (R=false):=aF (by rw [HR.out];simp [h1]);have e1:(k != k2)=true:=by simp [h1]
  clear HR h1;go_enter Tryz.func143,Tryz.ntmps143
  go_wp2_with fail
  go_ret;exact ⟨by rw [HF.out];rfl,HB0.out _ _⟩
 subst h1;by_cases h2:mu=mu2
 case neg=>
  have HF:Hid (R=false):=aF (by rw [HR.out];simp [h2]);have hmm:(mu=true/\mu2=false)\/(mu=false/\mu2=true):=by revert h2;cases mu <;> cases mu2 <;> simp
  clear HR h2;rcases hmm with ⟨rfl,rfl⟩ | ⟨rfl,rfl⟩
  all_goals
   go_enter Tryz.func143,Tryz.ntmps143
   go_wp2_with fail
   go_ret;exact ⟨by rw [HF.out];rfl,HB0.out _ _⟩
 subst h2;by_cases h3:rg=rg2
 case neg=>
  have HF:Hid (R=false):=aF (by rw [HR.out];simp [h3]);have e1:(rg != rg2)=true:=by simp [h3]
  clear HR h3;go_enter Tryz.func143,Tryz.ntmps143
  go_wp2_with fail
  go_ret;exact ⟨by rw [HF.out];rfl,HB0.out _ _⟩
 subst h3;by_cases h4:el=el2
 case neg=>
  have HF:Hid (R=false):=aF (by rw [HR.out];simp [h4]);have e1:(el != el2)=true:=by simp [h4]
  clear HR h4;go_enter Tryz.func143,Tryz.ntmps143
  go_wp2_with fail
  go_ret;exact ⟨by rw [HF.out];rfl,HB0.out _ _⟩
 subst h4;obtain ⟨n,hn⟩:∃n,fl.length=n:=⟨_,rfl⟩;obtain ⟨n2,hn2⟩:∃n,fl2.length=n:=⟨_,rfl⟩;have HN:=aF hn;have HN2:=aF hn2;rw [hn] at hle ⊢;rw [hn2] at hle2 ⊢;by_cases h5:n=n2
 case neg=>
  have HF:Hid (R=false):=aF (by rw [HR.out];have:fl≠fl2:=fun h=>h5 (by rw [<- hn,<- hn2,h]);simp [this]);have e1:((n:Int) != (n2:Int))=true:=by simp;omega
  clear HR h5 hn hn2;go_enter Tryz.func143,Tryz.ntmps143
  go_wp2_with fail
  go_ret;exact ⟨by rw [HF.out];rfl,HB0.out _ _⟩
 subst h5;have HQ:Hid (R=decide (fl.drop 0=fl2.drop 0)):=aF (by rw [HR.out];simp);have hcc:=cU (w:=w) (l1:=[Value.int .i64 k,.bool mu,.int .i64 rg,.int .i64 el,.slice A n c]) (l2:=[Value.int .i64 k,.bool mu,.int .i64 rg,.int .i64 el,.slice B n d]) (t1:=65) (t2:=65) (aX _ _);have HCC:=aF hcc;have HBW:=aF (bel2 w (.cells #[.int .i64 k,.bool mu,.int .i64 rg,.int .i64 el,.slice A n c] 65) (.cells #[.int .i64 k,.bool mu,.int .i64 rg,.int .i64 el,.slice B n d] 65));clear HR hn hn2 hcc;go_enter Tryz.func143,Tryz.ntmps143
 go_wp2_with fail
 go_loopw [5] (fun v wr=>∃j:Nat,j<=n/\v = .int .i64 j/\Hid (aA [Value.int .i64 k,.bool mu,.int .i64 rg,.int .i64 el,.slice A n c] wr w.heap.size)/\Hid (aA [Value.int .i64 k,.bool mu,.int .i64 rg,.int .i64 el,.slice B n d] wr (w.heap.size+1))/\Hid (Below w.heap.size w wr)/\Hid (R=decide (fl.drop j=fl2.drop j))) (fun v _=>n - (intOf v).toNat)
 case atStart=>exact ⟨0,by omega,rfl,aF HCC.out.1,aF HCC.out.2,HBW,HQ⟩
 case round=>
  clear HCC HBW HQ;obtain ⟨j,hj,rfl,HX,HY,HBR,hr⟩:=hrel;have x4:=HX.out 4 _ rfl;have y4:=HY.out 4 _ rfl;by_cases hlt:j<n
  ·have hl1:j<fl.length:=by rw [HN.out];exact hlt
   have hl2:j<fl2.length:=by rw [HN2.out];exact hlt
   obtain ⟨ba,oa,rfl,hba,hxa⟩:=HA.out.sl.at_ hl1;obtain ⟨b8,o8,rfl,hb8,hxb⟩:=HB.out.sl.at_ hl2
   have HV:Hid (R=(decide (fl[j]=fl2[j]) && decide (fl.drop (j+1)=fl2.drop (j+1)))):=aF (by
    rw [hr.out,cV hl1,cV hl2,bQ]
    simp only [List.cons.injEq,decide_eq_true_eq,bP])
   obtain ⟨x,hxx⟩:∃x,fl[j]=x:=⟨_,rfl⟩;obtain ⟨y,hyy⟩:∃y,fl2[j]=y:=⟨_,rfl⟩;rw [hxx] at hxa HV;rw [hyy] at hxb HV;have xa:wr.cell? ⟨ba,oa+j,none⟩=some (.int .i64 x):=cO HBR.out (by simpa [RInt] using hxa);have xb:wr.cell? ⟨b8,o8+j,none⟩=some (.int .i64 y):=cO HBR.out (by simpa [RInt] using hxb);clear hxa hxb hxx hyy hr hl1 hl2;by_cases hxy:x=y
   ·have e1:(x != y)=false:=by simp [hxy]
    have HF:Hid (R=decide (fl.drop (j+1)=fl2.drop (j+1))):=aF (by rw [HV.out];simp [hxy]);clear HV hxy;go_wp2_with fail
    go_quiet (fail)
    all_goals go_wp2_with fail
    go_roundw
    case rel=>exact ⟨j+1,by omega,by go_num,aF (fun i v hi=>HX.out i v hi),aF (fun i v hi=>HY.out i v hi),aF (aG HBR.out _),HF⟩
    case measure=>simp [intOf];omega
   ·have e1:(x != y)=true:=by simp [hxy]
    have HF:Hid (R=false):=aF (by rw [HV.out];simp [hxy]);clear HV hxy;go_wp2_with fail
    go_quiet (fail)
    all_goals go_wp2_with fail
    go_ret;exact ⟨by rw [HF.out];rfl,aG HBR.out _⟩
  ·have HF:Hid (R=true):=aF (by
    rw [hr.out,bE (by rw [HN.out];omega),bE (by rw [HN2.out];omega)]
    simp)
   clear hr;go_wp2_with fail
   go_ret;exact ⟨by rw [HF.out];rfl,HBR.out⟩
theorem vS (ts:List Ty) (t:Ty) (A B:Option Addr) (c d:Nat) (w:World) (hs:Slc 5 RTy w A c ts) (ht:Slc 1 RInt w B d t.flds):
 Calls Tryz.prog 105 #[.slice A ts.length c,tyAgg t B d] w fun e' w'=>e' = .returned (.int .i64 (idxF (eqT t) 0 ts))/\Below w.heap.size w w':=by
 have hle:=hs.le;have hbig:=hs.big;obtain ⟨R,hR⟩:∃R,idxF (eqT t) 0 ts=R:=⟨_,rfl⟩;rw [hR];have HR:=aF hR;have HS:=aF hs;have HT:=aF ht;have HEQ:=aF (fun (W:World) (hb:Below w.heap.size w W) (x:Ty) (A2:Option Addr) (c2:Nat) (hx:Slc 1 RInt w A2 c2 x.flds)=>zR x t A2 B c2 d W (hx.keep RInt.keeps hb) (ht.keep RInt.keeps hb));have HX0:=aF (cQ w [Value.int .i64 t.kind,.bool t.mu,.int .i64 t.reg,.int .i64 t.elem,.slice B t.flds.length d] 65);clear hR hs ht;unfold tyAgg at *;go_enter Tryz.func105,Tryz.ntmps105
 go_wp2_with fail
 go_loopw [5] (fun v wr=>∃k:Nat,k<=ts.length/\v = .int .i64 k/\Hid (aA [Value.int .i64 t.kind,.bool t.mu,.int .i64 t.reg,.int .i64 t.elem,.slice B t.flds.length d] wr w.heap.size)/\Hid (Below w.heap.size w wr)/\Hid (R=idxF (eqT t) k (ts.drop k))) (fun v _=>ts.length - (intOf v).toNat)
 case atStart=>exact ⟨0,by omega,rfl,HX0,aF ((aX _ _).alloc (aY _) _),aF HR.out.symm⟩
 case round=>
  clear HX0;obtain ⟨k,hk,rfl,HX,HB,hr⟩:=hrel;by_cases hlt:k<ts.length
  ·have hd:=cV hlt;obtain ⟨b,o,rfl,hb,hx⟩:=HS.out.sl.at_ hlt;obtain ⟨x,hxx⟩:∃x,ts[k]=x:=⟨_,rfl⟩;rw [hxx] at hd hx;obtain ⟨r0,r1,r2,r3,A2,c2,r4,r6,r7,r8⟩:=hx;have HN:Hid (R=if eqT t x=true then (k:Int) else idxF (eqT t) (k+1) (ts.drop (k+1))):=aF (by rw [hr.out,hd];rfl);have HC:=aF (fun W hb=>HEQ.out W hb x A2 c2 ⟨r8,r6,r7⟩);change Hid (∀W,Below w.heap.size w W->Calls Tryz.prog 143 _ W fun e' w'=>e' = .returned (.bool (eqT t x))/\Below W.heap.size W w') at HC;have P0:=aF r0;have P1:=aF r1;have P2:=aF r2;have P3:=aF r3;have P4:=aF r4;generalize eqT t x=q at HC HN;clear hd hr hxx r8 r0 r1 r2 r3 r4;go_wp2_with fail
   have hS:(aA [Value.int .i64 t.kind,.bool t.mu,.int .i64 t.reg,.int .i64 t.elem,.slice B t.flds.length d] wr.drew w.heap.size)/\Below w.heap.size w wr.drew:=⟨HX.out,HB.out.drew⟩;refine cT (S:=fun X=>(aA [Value.int .i64 t.kind,.bool t.mu,.int .i64 t.reg,.int .i64 t.elem,.slice B t.flds.length d] X w.heap.size)/\Below w.heap.size w X) [0,1,2,3,4,5] (by kernel_rfl) ?_;(iterate 5 (refine cR (v:=?_) ?_ hS ?_;rotate_left;(next=>(rintro X ⟨hX,hZ⟩;obtain ⟨s0,s1,s2,s3,s4⟩:=aQ hX;have p0:=cO hZ P0.out;have p1:=cO hZ P1.out;have p2:=cO hZ P2.out;have p3:=cO hZ P3.out;have p4:=cO hZ P4.out;(try simp only [aI]);go_simp;rfl));simp only [aM]));(refine cY (fun K1 hK1=>?_);simp only [aM];rw [bA (by rfl)];go_simp);refine (HC.out _ hS.2).mono ?_;rintro e' w2 ⟨rfl,hb2⟩;replace hS:=bJ (cP hS.1 hb2) (hS.2.trans (hb2.mono hS.2.size));have HS2:=aF hS;clear hb2;refine hK1.out _ _ (fun _=>hS) ?_;clear hK1 hS;refine cZ ?_;cases q
   ·have HF:Hid (R=idxF (eqT t) (k+1) (ts.drop (k+1))):=HN;go_wp2_with fail
    go_roundw
    case rel=>exact ⟨k+1,by omega,by go_num,aF HS2.out.1,aF HS2.out.2,HF⟩
    case measure=>simp [intOf];omega
   ·have HF:Hid (R=k):=HN;go_wp2_with fail
    go_ret;exact ⟨by rw [HF.out];rfl,HS2.out.2⟩
  ·have HN:Hid (R = -1):=aF (by rw [hr.out,bE (by omega)];rfl);clear hr;go_wp2_with fail
   go_ret;exact ⟨by rw [HN.out];rfl,HB.out⟩
end
section
open Go Go.RowKit Go.Shelf
def restE (prev:List Ty) (d:List Int) (t:Ty) (a:Int) (l:List Int):Int:=
 match depF d a l with
 | none=>3
 | some k=>if t.kind=4/\(t.flds.length=0\/65535<t.flds.length) then 15 else if 32<=k then 19 else if t∈prev then 21 else 0
theorem qW {prev:List Ty} {d:List Int} {n:Int} {t:Ty} (h1:¬(t.kind<0\/4<t.kind)):
 (tyE prev d n t).1=if (t.kind≠3/\(t.mu=true\/t.reg≠0\/t.elem≠0))\/(t.kind≠4/\0<t.flds.length) then 2 else if t.kind=3/\(t.reg<0\/n<=t.reg) then 3 else restE prev d t 0 (refsD t):=by
 unfold tyE restE refsD;rw [aZ h1];by_cases c2:(t.kind≠3/\(t.mu=true\/t.reg≠0\/t.elem≠0))\/(t.kind≠4/\0<t.flds.length)
 ·rw [bA c2,bA c2]
 ·rw [aZ c2,aZ c2];by_cases c3:t.kind=3/\(t.reg<0\/n<=t.reg)
  ·rw [bA c3,bA c3]
  ·rw [aZ c3,aZ c3];cases depF d 0 (if t.kind=3 then [t.elem] else t.flds) with
   | none=>rfl
   | some k=>
     simp only;by_cases c4:t.kind=4/\(t.flds.length=0\/65535<t.flds.length)
     ·rw [bA c4,bA c4]
     ·rw [aZ c4,aZ c4];by_cases c5:32<=k
      ·rw [bA c5,bA c5]
      ·rw [aZ c5,aZ c5];by_cases c6:t∈prev
       ·rw [bA c6,bA c6]
       ·rw [aZ c6,aZ c6]
theorem lC {prev:List Ty} {d:List Int} {t:Ty} {a f y:Int} {n:Nat} {r:List Int} (hf:f=n) (hy:d[n]?=some y):restE prev d t a (f :: r)=restE prev d t (max a y) r:=by
 subst hf;unfold restE;rw [depF,aZ (by omega)];simp only [bV,hy]
theorem nN {prev:List Ty} {d:List Int} {t:Ty} {a f:Int} {r:List Int} (hf:¬(0<=f/\f<d.length)):restE prev d t a (f :: r)=3:=by
 unfold restE;rw [depF];by_cases h:f<0
 ·rw [bA h]
 ·rw [aZ h,cE (by omega)]
theorem xDT {ts:List Ty} {t:Ty}:0<=idxF (eqT t) 0 ts↔t∈ts:=by
 have h:=iP (eqT t) ts 0;rw [<- decide_eq_true_iff (p:=0<=idxF (eqT t) 0 ts),h];simp only [List.any_eq_true,eqT,decide_eq_true_eq];exact ⟨fun ⟨x,h1,h2⟩=>h2 ▸ h1,fun h=>⟨t,h,rfl⟩⟩
theorem qN (ts:List Ty) (ds:List Int) (i:Nat) (n:Int) (A B:Option Addr) (c d:Nat) (w:World) (hs:Slc 5 RTy w A c ts) (hd:Slc 1 RInt w B d ds) (hi:i<ts.length) (hdi:ds.length=i) (hpos:∀y∈ds,0<=y/\y<=1000):
 Calls Tryz.prog 71 #[.slice A ts.length c,.slice B i d,.int .i64 i,.int .i64 n] w fun e' w'=>e' = .returned (.int .i64 (tyE (ts.take i) ds n ts[i]).1)/\Below w.heap.size w w':=by
 have hle:=hs.le;have hbig:=hs.big;have hdle:=hd.le;rw [hdi] at hdle;have hdbig:=hd.big;have hti:(ts.take i).length=i:=by simp;omega
 have HF:=aF (fun (t:Ty) (B':Option Addr) (d':Nat) (W:World) (hW:Below w.heap.size w W) (ht:Slc 1 RInt W B' d' t.flds)=>vS (ts.take i) t A B' c d' W ((hs.takeN i).keep RTy.keeps hW) ht);rw [hti] at HF;unfold tyAgg at HF;obtain ⟨b1,o1,rfl,hb1,r0⟩:=hs.sl.at_ hi
 obtain ⟨b4,o4,hA3,hcell0⟩:∃b4 o4,(0<i->B=some ⟨b4,o4,none⟩/\b4<w.heap.size)/\∀f y,ds[f]?=some y->w.cell? ⟨b4,o4+f,none⟩=some (.int .i64 y):=by
  by_cases h0:0<i
  ·obtain ⟨b4,o4,hA4,hb4,hr4⟩:=hd.sl (by omega);refine ⟨b4,o4,fun _=>⟨hA4,hb4⟩,fun f y hf=>?_⟩;have:=hr4 f _ hf;unfold RInt at this;rw [Nat.mul_one] at this;exact this
  ·exact ⟨0,0,fun h=>absurd h h0,fun f y hf=>by have:=(List.getElem?_eq_some_iff.1 hf).1;omega⟩
 have HA3:=aF hA3;have HC:=aF hcell0;have HP:=aF hpos;have HDI:=aF hdi;generalize ts[i]=t at *;obtain ⟨pv,hpv⟩:∃pv,ts.take i=pv:=⟨_,rfl⟩;rw [hpv] at HF ⊢;obtain ⟨R,hR⟩:∃R,(tyE pv ds n t).1=R:=⟨_,rfl⟩;rw [hR];obtain ⟨r1,r2,r3,r4,A2,c2,r5,r6,r7,r8⟩:=r0;have H8:=aF r8;clear r8 hA3 hcell0 hd hs hti hdi hpos hpv;by_cases hk0:t.kind<0
 ·have HR14:Hid (R=14):=aF (by rw [<- hR];unfold tyE;rw [bA (Or.inl hk0)]);clear hR;go_enter Tryz.func71,Tryz.ntmps71
  go_wp2
  (go_ret;exact ⟨by rw [HR14.out];rfl,aH⟩)
 by_cases hk4:4<t.kind
 ·have HR14:Hid (R=14):=aF (by rw [<- hR];unfold tyE;rw [bA (Or.inr hk4)]);clear hR;have hk1:0<=t.kind:=by omega
  go_enter Tryz.func71,Tryz.ntmps71
  go_wp2
  (go_ret;exact ⟨by rw [HR14.out];rfl,aH⟩)
 have hk1:0<=t.kind:=by omega
 have hk5:t.kind<=4:=by omega
 have HR:=aF ((qW (prev:=pv) (d:=ds) (n:=n) (t:=t) (by omega)).symm.trans hR);clear hk0 hk4 hR;go_enter Tryz.func71,Tryz.ntmps71
 go_upto_region 1 with fail
 go_cut [9] (fun s9 wx=>s9 = .pointer (some ⟨w.heap.size,0,none⟩)/\(wx.cell? ⟨w.heap.size,0,none⟩=some (.int .i64 t.kind)/\wx.cell? ⟨w.heap.size,1,none⟩=some (.bool t.mu)/\wx.cell? ⟨w.heap.size,2,none⟩=some (.int .i64 t.reg)/\wx.cell? ⟨w.heap.size,3,none⟩=some (.int .i64 t.elem)/\wx.cell? ⟨w.heap.size,4,none⟩=some (.slice A2 t.flds.length c2))/\Below w.heap.size w wx)
 case first=>
  go_wp2_with fail
  go_meet;exact ⟨rfl,⟨by go_simp,by go_simp,by go_simp,by go_simp,by go_simp⟩,aH⟩
 case rest=>
 obtain ⟨rfl,⟨z0,z1,z2,z3,z4⟩,hb⟩:=hcut;obtain ⟨wr,rfl⟩:∃wr:World,wr=wc:=⟨_,rfl⟩;have HB:=aF hb;clear hb r1 r2 r3 r4 r5;go_upto_region 4 with fail
 go_cut [51] (fun s51 wx=>∃b,s51 = .bool b/\Hid (b=true↔((t.kind≠3/\(t.mu=true\/t.reg≠0\/t.elem≠0))\/(t.kind≠4/\0<t.flds.length)))/\wr=wx)
 case first=>
  clear HF HC HA3 H8 HR HP HDI HB;go_wp2_with fail
  all_goals (go_meet;exact ⟨_,rfl,aF (by grind),rfl⟩)
 case rest=>
 obtain ⟨b,rfl,hiff,rfl⟩:=hcut;cases b
 case true=>
  have HRB:Hid (R=2):=aF (by rw [<- HR.out,bA (hiff.out.1 rfl)]);clear HR hiff;go_wp2_with fail
  (go_ret;exact ⟨by rw [HRB.out];rfl,HB.out⟩)
 case false=>
 have hC2:¬((t.kind≠3/\(t.mu=true\/t.reg≠0\/t.elem≠0))\/(t.kind≠4/\0<t.flds.length)):=fun h=>absurd (hiff.out.2 h) (by decide)
 have HR2:Hid (R=if t.kind=3/\(t.reg<0\/n<=t.reg) then 3 else restE pv ds t 0 (refsD t)):=aF (by rw [<- HR.out,aZ hC2])
 have HK3:Hid (t.kind=3->t.flds=[]):=aF (fun h=>by
  rcases Nat.eq_zero_or_pos t.flds.length with h0 | h0
  ·exact List.length_eq_zero_iff.1 h0
  ·exact absurd (Or.inr ⟨by omega,h0⟩) hC2)
 clear hiff HR hC2;go_upto_if 54 with fail
 go_cut [10] (fun s10 wx=>∃y:Int,s10 = .int .i64 y/\0<=y/\y<=1000/\Hid (R=restE pv ds t y t.flds)/\wr=wx)
 case first=>
  by_cases hk:t.kind=3
  ·have hk2:(t.kind == 3)=true:=by simp [hk]
   have HR3:Hid (R=if t.reg<0\/n<=t.reg then 3 else restE pv ds t 0 (t.elem :: t.flds)):=aF (by
    rw [HR2.out];unfold refsD
    simp only [hk,true_and,if_true,HK3.out hk])
   clear HR2 HK3;by_cases he:0<=t.elem/\t.elem<i
   ·obtain ⟨f,hf⟩:=bG he.1;have hfi:f<i:=(by omega);have hdf:ds[f]?=some (ds[f]'(by have:=HDI.out;omega)):=bD _;obtain ⟨y,hy0⟩:∃y,ds[f]?=some y:=⟨_,hdf⟩;have hyp:=HP.out y (List.mem_of_getElem? hy0);have hyp1:=hyp.1;have hyp2:=hyp.2;have HR4:Hid (R=if t.reg<0\/n<=t.reg then 3 else restE pv ds t y t.flds):=aF (by rw [HR3.out,lC hf hy0,show max 0 y=y by omega]);have hy:=HC.out f y hy0;obtain ⟨hA,hbb0⟩:=HA3.out (by omega);replace hy:=(HB.out.cell (p:=⟨b4,o4+f,none⟩) hbb0).trans hy;subst hA;rw [hf] at z3;clear hf he HF HC HA3 H8 HR3 hyp hy0 hdf HP HDI hk;go_wp2_with fail
    all_goals first
     | (go_ret;exact ⟨by rw [show R=3 by rw [HR4.out,bA (by omega)]];rfl,HB.out⟩)
     | (go_meet;exact ⟨_,rfl,by omega,by omega,aF (by rw [HR4.out,aZ (by omega)]),rfl⟩)
   ·have HRB:Hid (R=3):=aF (by
     rw [HR3.out,nN (by rw [HDI.out];omega)]
     simp)
    clear HF HC HA3 H8 HR3 HP HDI hk;go_wp2_with fail
    all_goals first
     | (go_ret;exact ⟨by rw [HRB.out];rfl,HB.out⟩)
     | (exfalso;omega)
  ·have hk2:(t.kind == 3)=false:=by simp [hk]
   have HR4:Hid (R=restE pv ds t 0 t.flds):=aF (by
    rw [HR2.out,aZ (fun h=>hk h.1)];unfold refsD
    rw [aZ hk])
   clear HF HC HA3 H8 HR2 HK3 HP HDI hk;go_wp2_with fail
   go_meet;exact ⟨0,rfl,by omega,by omega,HR4,rfl⟩
 case rest=>
 obtain ⟨y0,rfl,hy00,hy01,HR3,rfl⟩:=hcut;clear HR2 HK3;go_wp2_with fail
 go_loop [10,11] (fun a j=>∃(y:Int) (m:Nat),m<=t.flds.length/\a = .int .i64 y/\j = .int .i64 m/\0<=y/\y<=1000/\Hid (R=restE pv ds t y (t.flds.drop m))) (fun _ j=>t.flds.length - (intOf j).toNat)
 case atStart=>exact ⟨_,0,by omega,rfl,rfl,hy00,hy01,HR3⟩
 case round=>
  clear HR3 hy00 hy01;obtain ⟨y1,m,hm,rfl,rfl,hp0,hp1,HR3⟩:=hrel;by_cases hlt3:m<t.flds.length
  ·obtain ⟨b3,o3,rfl,hb3,hr3⟩:=H8.out.at_ hlt3;unfold RInt at hr3;rw [Nat.mul_one] at hr3;replace hr3:=(HB.out.cell (p:=⟨b3,o3+m,none⟩) hb3).trans hr3;have hR5:=HR3.out;rw [gL hlt3] at hR5;by_cases hz:0<=t.flds[m]/\t.flds[m]<i
   ·obtain ⟨f2,hf2⟩:=bG hz.1;have hfi:f2<i:=(by omega);obtain ⟨y2,hy0⟩:∃y,ds[f2]?=some y:=⟨_,bD (by have:=HDI.out;omega)⟩;have hyp:=HP.out y2 (List.mem_of_getElem? hy0);rw [lC hf2 hy0] at hR5;have HR5:=aF hR5;have hyp1:=hyp.1;have hyp2:=hyp.2;have hy2:=HC.out f2 y2 hy0;obtain ⟨hA,hbb⟩:=HA3.out (by omega);subst hA;replace hy2:=(HB.out.cell (p:=⟨b4,o4+f2,none⟩) hbb).trans hy2;rw [hf2] at hr3;clear hz hf2 HF HC HA3 H8 HP HDI hR5 hyp hy0 HR3;go_wp2_with fail
    all_goals
     go_round
     case rel=>exact ⟨_,m+1,by omega,rfl,by go_num,by omega,by omega,aF (by have:=HR5.out;first | exact this | (rw [Int.max_def] at this;split at this <;> first | exact this | omega))⟩
     case measure=>simp [intOf];omega
   ·rw [nN (by rw [HDI.out];exact hz)] at hR5;have HRB:=aF hR5;clear hR5;generalize t.flds[m]=z at *;clear HF HC HA3 H8 HP HDI HR3;go_wp2_with fail
    all_goals first
     | (go_ret;exact ⟨by rw [HRB.out];rfl,HB.out⟩)
     | (exfalso;omega)
  ·have hme:m=t.flds.length:=by omega
   subst hme;have hR5:=HR3.out;rw [List.drop_length] at hR5;have HR5:Hid (R=if t.kind=4/\(t.flds.length=0\/65535<t.flds.length) then 15 else if 32<=y1 then 19 else if t∈pv then 21 else 0):=aF hR5;have hE:=aF (HF.out t A2 c2 wr.drew HB.out.drew ⟨H8.out.keep RInt.keeps HB.out.drew.size HB.out.drew,r6,r7⟩);have HMEM:=aF (xDT (ts:=pv) (t:=t));generalize idxF (eqT t) 0 pv=q at hE HMEM;have hic:(i:Int)<=c:=by omega
   have hwi:IntKind.i64.wrap (i:Int)=(i:Int):=by rw [IntKind.wrap_i64];omega
   clear HF HC HA3 H8 hR5 HR3 HP HDI;go_upto_region 17 with fail
   go_cut [11,126] (fun s11 s126 wx=>∃b,s126 = .bool b/\Hid (b=true↔(t.kind=4/\(t.flds.length=0\/65535<t.flds.length)))/\wr=wx)
   case first=>
    clear hE HMEM HR5 HB;go_wp2_with fail
    all_goals (go_meet;exact ⟨_,rfl,aF (by grind),rfl⟩)
   case rest=>
   obtain ⟨b,rfl,hiff,rfl⟩:=hcut;cases b
   case true=>
    have HRB:Hid (R=15):=aF (by rw [HR5.out,bA (hiff.out.1 rfl)]);clear HR5 hiff;go_wp2_with fail
    (go_ret;exact ⟨by rw [HRB.out];rfl,HB.out⟩)
   case false=>
   have HR6:Hid (R=if 32<=y1 then 19 else if t∈pv then 21 else 0):=aF (by rw [HR5.out,aZ (fun h=>absurd (hiff.out.2 h) (by decide))]);clear HR5 hiff;have e64:wrap64 (y1+1)=y1+1:=by unfold wrap64;omega
   go_upto_region 21 with fail
   all_goals first
    | (go_ret;exact ⟨by rw [show R=19 by rw [HR6.out,bA (by omega)]];rfl,HB.out⟩)
    | skip
   have HR7:Hid (R=if 0<=q then 21 else 0):=aF (by rw [HR6.out,aZ (by omega)];by_cases hq:0<=q <;> simp [hq,<- HMEM.out]);go_still_tail 4,(by kernel_rfl)
   change wpList _ _ _ _ _ wr.drew;go_wp2_with (go_at_call 105;refine hE.out.mono ?_;rintro e' w2 ⟨rfl,hb2⟩)
   ·go_ret;exact ⟨by rw [show R=21 by rw [HR7.out,bA (by omega)]];rfl,HB.out.drew.trans (hb2.mono HB.out.drew.size)⟩
   ·go_ret;exact ⟨by rw [show R=0 by rw [HR7.out,aZ (by omega)]];rfl,HB.out.drew.trans (hb2.mono HB.out.drew.size)⟩
theorem xEH {prev:List Ty} {d:List Int} {n:Int} {t:Ty} (h:(tyE prev d n t).1=0):∃K,depF d 0 (refsD t)=some K/\K<32/\(t.kind=3->t.flds=[]):=by
 have h1:¬(t.kind<0\/4<t.kind):=fun hc=>by unfold tyE at h;rw [bA hc] at h;cases h
 rw [qW h1] at h;by_cases c2:(t.kind≠3/\(t.mu=true\/t.reg≠0\/t.elem≠0))\/(t.kind≠4/\0<t.flds.length)
 ·rw [bA c2] at h;cases h
 rw [aZ c2] at h;by_cases c3:t.kind=3/\(t.reg<0\/n<=t.reg)
 ·rw [bA c3] at h;cases h
 rw [aZ c3] at h;unfold restE at h;cases hd:depF d 0 (refsD t) with
 | none=>rw [hd] at h;cases h
 | some K=>
   rw [hd] at h;simp only at h;by_cases c4:t.kind=4/\(t.flds.length=0\/65535<t.flds.length)
   ·rw [bA c4] at h;cases h
   rw [aZ c4] at h;by_cases c5:32<=K
   ·rw [bA c5] at h;cases h
   ·refine ⟨K,rfl,by omega,fun hk=>?_⟩;rcases Nat.eq_zero_or_pos t.flds.length with h0 | h0
    ·exact List.length_eq_zero_iff.1 h0
    ·exact absurd (Or.inr ⟨by omega,h0⟩) c2
structure DepOk (ts:List Ty) (i:Nat):Prop where
 ok:OkD ts i
 le:∀y∈depsN [] (ts.take i),0<=y/\y<=1000
theorem DepOk.zero (ts:List Ty):DepOk ts 0:=⟨fun i _ h=>absurd h (by omega),fun y h=>by simp [depsN] at h⟩
theorem DepOk.next {ts:List Ty} {i:Nat} {n:Int} (h:DepOk ts i) (hi:i<ts.length) (ht:(tyE (ts.take i) (depsN [] (ts.take i)) n ts[i]).1=0):DepOk ts (i+1):=by
 obtain ⟨K,hK,hK1,hK2⟩:=xEH ht;refine ⟨fun j hj hlt=>?_,fun y hy=>?_⟩
 ·by_cases hji:j=i
  ·subst hji;exact ⟨K,hK,by omega,hK2⟩
  ·exact h.ok j hj (by omega)
 ·rw [bF hi,gS] at hy;rcases List.mem_append.1 hy with e | e
  ·exact h.le y e
  ·rw [bR] at e
   have:depK (depsN [] (ts.take i)) ts[i]=K:=by
    unfold depK;unfold refsD at hK;rw [hK];rfl
   have h0:=xK (depsN [] (ts.take i)) ts[i];omega
theorem jJ {ts:List Ty} {i:Nat} {n:Int} (hi:i<ts.length) (ht:(tyE (ts.take i) (depsN [] (ts.take i)) n ts[i]).1=0):typesE n (ts.take i) (depsN [] (ts.take i)) (ts.drop i)=typesE n (ts.take (i+1)) (depsN [] (ts.take (i+1))) (ts.drop (i+1)):=by
 rw [gL hi,typesE,bA ht,xCG ht,bF hi,gS]
theorem kX {n:Int} {ts:List Ty}:∀(k i:Nat),ts.length - i=k->i<=ts.length->DepOk ts i->typesE n (ts.take i) (depsN [] (ts.take i)) (ts.drop i)=0->DepOk ts ts.length
 | 0,i,hk,hi,h,_=>by
   have:i=ts.length:=by omega
   exact this ▸ h
 | k+1,i,hk,hi,h,h0=>by
   have hlt:i<ts.length:=by omega
   by_cases ht:(tyE (ts.take i) (depsN [] (ts.take i)) n ts[i]).1=0
   ·rw [jJ hlt ht] at h0;exact kX k (i+1) (by omega) (by omega) (h.next hlt ht) h0
   ·rw [gL hlt,typesE,aZ ht] at h0;exact absurd h0 ht
theorem sU {n:Int} {ts:List Ty} (h:typesC n ts=0):DepOk ts ts.length:=by
 unfold typesC at h;by_cases hl:65535<ts.length
 ·rw [bA hl] at h;cases h
 ·rw [aZ hl] at h;exact kX ts.length 0 (by omega) (by omega) (DepOk.zero ts) h
theorem jU (ts:List Ty) (n:Int) (A:Option Addr) (c:Nat) (w:World) (hs:Slc 5 RTy w A c ts):
 Calls Tryz.prog 42 #[.slice A ts.length c,.int .i64 n] w fun e' w'=>e' = .returned (.int .i64 (typesC n ts))/\Below w.heap.size w w':=by
 have hle:=hs.le;have hbig:=hs.big;have HS:=aF hs;obtain ⟨R,hR⟩:∃R,typesC n ts=R:=⟨_,rfl⟩;rw [hR];clear hs;by_cases hl:65535<ts.length
 ·have HR:Hid (R=15):=aF (by rw [<- hR];unfold typesC;rw [bA hl]);clear hR;go_enter Tryz.func42,Tryz.ntmps42
  go_wp2_with fail
  go_ret;exact ⟨by rw [HR.out];rfl,aX _ _⟩
 ·have HR:Hid (R=typesE n (ts.take 0) (depsN [] (ts.take 0)) (ts.drop 0)):=aF (by rw [<- hR];unfold typesC;rw [aZ hl];rfl);clear hR;go_enter Tryz.func42,Tryz.ntmps42
  go_wp2_with fail
  go_loopw [5,6] (fun v u wr=>∃(i:Nat) (A':Option Addr) (c':Nat),i<=ts.length/\u = .int .i64 i/\v = .slice A' i c'/\Hid (Slc 1 RInt wr A' c' (depsN [] (ts.take i)))/\Hid (DepOk ts i)/\Hid (Below w.heap.size w wr)/\Hid (R=typesE n (ts.take i) (depsN [] (ts.take i)) (ts.drop i))) (fun _ u _=>ts.length - (intOf u).toNat)
  case atStart=>exact ⟨0,none,0,by omega,rfl,rfl,aF ⟨Sl.nil,by simp [depsN],by omega⟩,aF (DepOk.zero ts),aF (aX _ _),HR⟩
  case round=>
   clear HR;obtain ⟨i,A',c',hi,rfl,rfl,HD,HO,HB,HR⟩:=hrel;by_cases hlt:i<ts.length
   ·have hdl:(depsN [] (ts.take i)).length=i:=by rw [kN];simp;omega
    have HE:=aF (qN ts _ i n A A' c c' wr (HS.out.keep RTy.keeps HB.out) HD.out hlt hdl HO.out.le);by_cases ht:(tyE (ts.take i) (depsN [] (ts.take i)) n ts[i]).1=0
    ·have HO2:=aF (HO.out.next hlt ht);have HR2:Hid (R=typesE n (ts.take (i+1)) (depsN [] (ts.take (i+1))) (ts.drop (i+1))):=aF (by rw [HR.out,jJ hlt ht]);rw [ht] at HE;have HDP:=aF (fun w2 (hb:Below wr.heap.size wr w2)=>kM ts (i+1) A c w2 (HS.out.keep RTy.keeps (HB.out.trans (hb.mono HB.out.size))) (by omega) (by omega) HO2.out.ok);clear ht hdl HD HO HR;go_wp2_with fail
     go_at_call 71
     refine HE.out.mono ?_;rintro e' w2 ⟨rfl,hb2⟩;have HDP2:=aF (HDP.out w2 hb2);have HB2:=aF (HB.out.trans (hb2.mono HB.out.size));clear hb2 HE HDP;go_wp2_with fail
     go_at_call 72
     refine HDP2.out.mono ?_;rintro e' w3 ⟨⟨A3,c3,rfl,hd3⟩,hb3⟩;have HD3:=aF hd3;have HB3:=aF (HB2.out.trans (hb3.mono HB2.out.size));clear hb3 hd3;go_wp2_with fail
     go_roundw
     case rel=>exact ⟨i+1,A3,c3,by omega,by go_num,by push_cast;rfl,HD3,HO2,HB3,HR2⟩
     case measure=>simp [intOf];omega
    ·have HR2:Hid (R=(tyE (ts.take i) (depsN [] (ts.take i)) n ts[i]).1):=aF (by rw [HR.out,gL hlt,typesE,aZ ht]);generalize (tyE (ts.take i) (depsN [] (ts.take i)) n ts[i]).1=q at *;have hq:(q != 0)=true:=by simp [ht]
     clear hdl HD HO HR ht;go_wp2_with fail
     go_at_call 71
     refine HE.out.mono ?_;rintro e' w2 ⟨rfl,hb2⟩;have HB2:=aF (HB.out.trans (hb2.mono HB.out.size));clear hb2 HE;go_wp2_with fail
     go_ret;exact ⟨by rw [HR2.out];rfl,HB2.out⟩
   ·have hie:i=ts.length:=(by omega);have HR2:Hid (R=0):=aF (by rw [HR.out,bE (by omega)];rfl);clear HR HD HO;go_wp2_with fail
    go_ret;exact ⟨by rw [HR2.out];rfl,HB.out⟩
theorem tU (ts:List Ty) (i:Nat) (A:Option Addr) (c:Nat) (w:World) (hs:Slc 5 RTy w A c ts) (hi:i<ts.length) (h64:ts.length<=65535) (hok:DepOk ts ts.length):
 Calls Tryz.prog 43 #[.slice A ts.length c,.int .i64 i] w fun e' w'=>(∃q,e' = .returned (.int .i64 q))/\Below w.heap.size w w':=by
 have hle:=hs.le;have hbig:=hs.big;have HD:=aF (kM ts (i+1) A c w hs (by omega) (by omega) (fun j hj hlt=>hok.ok j hj (by omega)));have hdl:(depsN [] (ts.take (i+1))).length=i+1:=by rw [kN];simp;omega
 generalize depsN [] (ts.take (i+1))=ds at HD hdl;clear hs hok;go_enter Tryz.func43,Tryz.ntmps43
 go_wp2_with fail
 go_at_call 72
 refine HD.out.mono ?_;rintro e' w2 ⟨⟨A2,c2,rfl,hd2⟩,hb2⟩;obtain ⟨b,o,rfl,hb,hr⟩:=hd2.sl.at_ (i:=i) (by omega);unfold RInt at hr;rw [Nat.mul_one] at hr;have HB2:=aF hb2;clear hb2 hd2 HD;generalize ds[i]=y at *;go_wp2_with fail
 go_ret;exact ⟨⟨y,rfl⟩,HB2.out⟩
end
section
open Go Go.RowKit
theorem wV:(Tryz.prog.info? 9).map (fun i=>(i.zero,i.size,i.bytes))=some (some (.string { data:= #[] }),1,16):=by kernel_rfl
structure NmOk (b:Bdy):Prop where
 name:b.name.size<=9223372036854775807
 regs:∀s∈b.regions,s.size<=9223372036854775807
 locs:∀x∈b.locals,x.name.size<=9223372036854775807
 blks:∀x∈b.blocks,x.term.name.size<=9223372036854775807
def dR6 (b:Bdy):Int:=if b.blocks.length=0\/65535<b.blocks.length then 15 else 0
def dR5 (b:Bdy):Int:=if b.args<0\/(b.locals.length:Int)<b.args then 3 else dR6 b
def dR4 (b:Bdy):Int:=if 65535<b.locals.length then 15 else if localsE b.types.length [] b.locals=0 then dR5 b else localsE b.types.length [] b.locals
def dR3 (b:Bdy):Int:=if typesC b.regions.length b.types=0 then dR4 b else typesC b.regions.length b.types
def dR2 (b:Bdy):Int:=if pairsC b.regions.length b.outl=0 then dR3 b else pairsC b.regions.length b.outl
theorem xFE (b:Bdy):dR4 b=if localsC b=0 then dR6 b else localsC b:=by
 unfold dR4 dR5 localsC;by_cases h1:65535<b.locals.length
 ·simp [h1]
 ·rw [aZ h1,aZ h1];by_cases h2:localsE b.types.length [] b.locals=0
  ·rw [bA h2,bA h2];by_cases h3:b.args<0\/(b.locals.length:Int)<b.args
   ·simp [h3]
   ·simp [h3]
  ·rw [aZ h2,aZ h2,aZ h2]
theorem uI (b:Bdy):declC b=if isIdent b.name=false then 12 else if namesC b.regions=0 then dR2 b else namesC b.regions:=by
 unfold declC;by_cases h0:isIdent b.name=false
 ·rw [bA h0,bA h0]
 rw [aZ h0,aZ h0];obtain ⟨q,hq⟩:∃q,firstE [namesC b.regions,pairsC b.regions.length b.outl,typesC b.regions.length b.types,localsC b]=q:=⟨_,rfl⟩;rw [hq];simp only [firstE] at hq;subst hq;by_cases h1:namesC b.regions=0
 ·rw [bA h1,bA h1];unfold dR2;by_cases h2:pairsC b.regions.length b.outl=0
  ·rw [bA h2,bA h2];unfold dR3;by_cases h3:typesC b.regions.length b.types=0
   ·rw [bA h3,bA h3,xFE];unfold dR6;by_cases h4:localsC b=0
    ·simp [h4]
    ·simp [h4]
   ·simp [h3]
  ·simp [h2]
 ·simp [h1]
theorem rR (s:ByteArray) (l:List ByteArray):memN s l.reverse=memN s l:=by
 simp [memN]
theorem vU (b:Bdy) (bh:BH) (w:World) (H:BdAt w b bh) (hz:NmOk b):
 Calls Tryz.prog 60 #[.agg (bdC b bh).toArray] w fun e' w'=>e' = .returned (.int .i64 (declC b))/\Below w.heap.size w w':=by
 obtain ⟨A1,c1,A2,c2,A3,c3,A4,c4,A5,c5⟩:=bh;obtain ⟨iS,iS0,iS1,iS2,iS3⟩:=info_parts wV;have HH:=aF H;have HZ:=aF hz;have r1:=H.reg.le;have r2:=H.reg.big;have l1:=H.loc.le;have l2:=H.loc.big;have t1:=H.typ.le;have t2:=H.typ.big;have b1:=H.blk.le;have b2:=H.blk.big;simp only at r1 r2 l1 l2 t1 t2 b1 b2;obtain ⟨R,hR⟩:∃R,declC b=R:=⟨_,rfl⟩;rw [hR];rw [uI] at hR;have HR:=aF hR.symm;have HI:=aF (fun W=>gN b.name W hz.name);clear hR H hz;unfold bdC;simp only;have HCW:=aF (cQ w [Value.string b.name,.slice A1 b.regions.length c1,.slice A2 b.outl.length c2,.slice A3 b.types.length c3,.slice A4 b.locals.length c4,.int .i64 b.args,.slice A5 b.blocks.length c5] 28);have HBW:=aF ((aX w.heap.size w).alloc (aY _) (.cells ([Value.string b.name,.slice A1 b.regions.length c1,.slice A2 b.outl.length c2,.slice A3 b.types.length c3,.slice A4 b.locals.length c4,.int .i64 b.args,.slice A5 b.blocks.length c5]).toArray 28));have HSZ:w.heap.size<(w.alloc (.cells ([Value.string b.name,.slice A1 b.regions.length c1,.slice A2 b.outl.length c2,.slice A3 b.types.length c3,.slice A4 b.locals.length c4,.int .i64 b.args,.slice A5 b.blocks.length c5]).toArray 28)).heap.size:=by simp
 cases hid:isIdent b.name
 ·rw [hid] at HI HR;have HF:Hid (R=12):=aF HR.out;clear hid HR;go_enter Tryz.func60,Tryz.ntmps60
  go_wp2_with (go_at_call 89;refine (HI.out _).mono ?_;rintro e' w9 ⟨rfl,hw⟩;obtain rfl:=hw.symm)
  go_ret;exact ⟨by rw [HF.out];rfl,HBW.out⟩
 rw [hid] at HI HR;have HQ:Hid (R=if namesC b.regions=0 then dR2 b else namesC b.regions):=aF HR.out;clear hid HR;by_cases hrl:65535<b.regions.length
 ·have HF:Hid (R=15):=aF (by rw [HQ.out];unfold namesC;simp [hrl]);clear HQ;go_enter Tryz.func60,Tryz.ntmps60
  go_wp2_with (go_at_call 89;refine (HI.out _).mono ?_;rintro e' w9 ⟨rfl,hw⟩;obtain rfl:=hw.symm)
  go_ret;exact ⟨by rw [HF.out];rfl,HBW.out⟩
 have HQ2:Hid (R=if namesE (b.regions.take 0).reverse (b.regions.drop 0)=0 then dR2 b else namesE (b.regions.take 0).reverse (b.regions.drop 0)):=aF (by
  rw [HQ.out];unfold namesC;rw [aZ hrl];rfl)
 clear HQ;go_enter Tryz.func60,Tryz.ntmps60
 go_wp2_with (go_at_call 89;refine (HI.out _).mono ?_;rintro e' w9 ⟨rfl,hw⟩;obtain rfl:=hw.symm)
 clear HI;go_loopw [3] (fun v wr=>∃k:Nat,k<=b.regions.length/\v = .int .i64 k/\Hid (aA (bdM b A1 c1 A2 c2 A3 c3 A4 c4 A5 c5 []) wr w.heap.size)/\Hid (Below w.heap.size w wr)/\w.heap.size<wr.heap.size/\Hid (R=if namesE (b.regions.take k).reverse (b.regions.drop k)=0 then dR2 b else namesE (b.regions.take k).reverse (b.regions.drop k))) (fun v _=>b.regions.length - (intOf v).toNat)
 case atStart=>exact ⟨0,by omega,rfl,HCW,HBW,HSZ,HQ2⟩
 case round=>
  clear HCW HBW HSZ HQ2;obtain ⟨k,hk,rfl,HCC,HB,hsz,hr⟩:=hrel;obtain ⟨y0,y1,y2,y3,y4,y5,y6⟩:=aS HCC.out;by_cases hlt:k<b.regions.length
  ·obtain ⟨b3,o3,hA1,hb3,hx⟩:=HH.out.reg.sl.at_ hlt;simp only at hA1;subst hA1;have hd:=cV hlt;have hss:=HZ.out.regs _ (bM hlt);have htk:b.regions.take (k+1)=b.regions.take k ++ [b.regions[k]]:=bF hlt;obtain ⟨s,hsx⟩:∃s,b.regions[k]=s:=⟨_,rfl⟩;rw [hsx] at hx hd hss htk;have P0:=aF (show w.cell? ⟨b3,o3+k,none⟩=some (.string s) by simpa [RN] using hx);have x0:=cO HB.out P0.out;have HIS:=aF (fun W=>gN s W hss)
   have HN:Hid (R=if isIdent s=false then 12 else if memN s (b.regions.take k)=true then 21 else if namesE (b.regions.take (k+1)).reverse (b.regions.drop (k+1))=0 then dR2 b else namesE (b.regions.take (k+1)).reverse (b.regions.drop (k+1))):=aF (by
    rw [hr.out,hd,namesE,rR,htk,List.reverse_append,List.reverse_singleton,List.singleton_append];by_cases h1:isIdent s=false
    ·simp [h1]
    ·rw [aZ h1,aZ h1];by_cases h2:memN s (b.regions.take k)=true
     ·simp [h2]
     ·rw [aZ h2,aZ h2])
   clear hx hd htk hsx hr;cases hid:isIdent s
   ·rw [hid] at HIS HN;have HF:Hid (R=12):=aF HN.out;clear hid HN;go_wp2_with (go_at_call 89;refine (HIS.out _).mono ?_;rintro e' w9 ⟨rfl,hw⟩;obtain rfl:=hw.symm)
    go_ret;exact ⟨by rw [HF.out];rfl,HB.out⟩
   rw [hid] at HIS HN;have HX:=aF (fun W (hb:Below w.heap.size w W)=>nY (b.regions.take k) s (some ⟨b3,o3,none⟩) c1 W ((HH.out.reg.takeN k).keep RN.keeps hb));rw [cM,Nat.min_eq_left hk] at HX
   have HCUT:Hid (∀W,(Instr.slice 22 (.slice (some ⟨b3,o3,none⟩) b.regions.length c1) none (some (.int .i64 (k:Int))) none).run Tryz.prog W = .ok (.slice (some ⟨b3,o3,none⟩) k c1) W):=aF (fun W=>by
    have:=mC (P:=Tryz.prog) 22 9 (some ⟨b3,o3,none⟩) b.regions.length c1 k 1 Tryz.underlying22 Tryz.sizeOf9 (by omega) r1 W
    simpa [cutA,Addr.add] using this)
   have HNG:=mL s 0 (b.regions.take k)
   have HN2:Hid ((0<=idxN s 0 (b.regions.take k)->R=21)/\(¬0<=idxN s 0 (b.regions.take k)->R=if namesE (b.regions.take (k+1)).reverse (b.regions.drop (k+1))=0 then dR2 b else namesE (b.regions.take (k+1)).reverse (b.regions.drop (k+1)))):=aF (by
    have h:=HN.out;simp only [Bool.true_eq_false,if_false] at h;constructor
    ·intro h1;rw [h,bA (HNG.1 h1)]
    ·intro h1
     rw [h,aZ (fun hc=>h1 (HNG.2 hc))])
   generalize idxN s 0 (b.regions.take k)=q at HX HN2;clear hid HN HNG;go_wp2_with (go_at_call 89;refine (HIS.out _).mono ?_;rintro e' w9 ⟨rfl,hw⟩;obtain rfl:=hw.symm)
   clear y0 y1 y2 y3 y4 y5 y6;clear x0;have hS:(aA (bdM b (some ⟨b3,o3,none⟩) c1 A2 c2 A3 c3 A4 c4 A5 c5 []) wr.drew w.heap.size)/\Below w.heap.size w wr.drew:=⟨HCC.out,HB.out.drew⟩;refine cT (S:=fun X=>(aA (bdM b (some ⟨b3,o3,none⟩) c1 A2 c2 A3 c3 A4 c4 A5 c5 []) X w.heap.size)/\Below w.heap.size w X) [0,1,2,3,4,5,6,7,8,9,10] (by kernel_rfl) ?_;(iterate 3 (refine cR (v:=?_) ?_ hS ?_;rotate_left;(next=>(rintro X ⟨hX,hZ⟩;obtain ⟨s0,s1,s2,s3,s4,s5,s6⟩:=aS hX;have x0:=cO hZ P0.out;(try simp only [aI]);go_simp;rfl));simp only [aM]));refine dA (v:= .slice (some ⟨b3,o3,none⟩) k c1) (by kernel_rfl) (fun _ _ _ h=>h) (Or.inl ⟨by rfl,?_⟩) hS ?_
   next=>
    rintro X ⟨hX,hZ⟩;(try simp only [aI]);have hcut:=HCUT.out X;go_simp
   (simp only [aM]);(iterate 5 (refine cR (v:=?_) ?_ hS ?_;rotate_left;(next=>(rintro X ⟨hX,hZ⟩;obtain ⟨s0,s1,s2,s3,s4,s5,s6⟩:=aS hX;have x0:=cO hZ P0.out;(try simp only [aI]);go_simp;rfl));simp only [aM]));(refine cY (fun K1 hK1=>?_);simp only [aM];rw [bA (by rfl)];go_simp);refine (HX.out _ hS.2).mono ?_;rintro e' w2 ⟨rfl,hw⟩;obtain rfl:=hw.symm;refine hK1.out _ _ (fun _=>hS) ?_;clear hK1;((refine cR (v:=?_) ?_ hS ?_;rotate_left;(next=>(rintro X -;(try simp only [aI]);go_simp;rfl));simp only [aM]))
   refine cZ ?_;have HC2:=aF hS.1;have HB2:=aF hS.2;have hsz2:w.heap.size<wr.drew.heap.size:=hsz;clear hS;by_cases hq:0<=q
   ·have HF:=aF (HN2.out.1 hq);have e1:decide (0<=q)=true:=(by simp [hq]);clear HN2;go_wp2_with fail
    all_goals first
     | (exfalso;omega)
     | (go_ret;exact ⟨by rw [HF.out];rfl,HB2.out⟩)
   ·have HF:=aF (HN2.out.2 (by omega));have e1:decide (0<=q)=false:=(by simp [hq]);clear HN2;go_wp2_with fail
    all_goals try (exfalso;omega)
    go_roundw
    case rel=>exact ⟨k+1,by omega,by go_num,HC2,HB2,hsz2,HF⟩
    case measure=>simp [intOf];omega
  ·have HR2:Hid (R=dR2 b):=aF (by rw [hr.out,bE (by omega:b.regions.length<=k)];rfl);have HP:=aF (fun W (hb:Below w.heap.size w W)=>tG b.outl (b.regions.length:Int) A2 c2 W (HH.out.keep hb).out);have HT:=aF (fun W (hb:Below w.heap.size w W)=>jU b.types (b.regions.length:Int) A3 c3 W (HH.out.keep hb).typ);unfold dR2 dR3 at HR2;obtain ⟨q4,hq4⟩:∃q4,dR4 b=q4:=⟨_,rfl⟩;rw [hq4] at HR2;have HQ4:=aF hq4;generalize pairsC (b.regions.length:Int) b.outl=q2 at HP HR2;generalize typesC (b.regions.length:Int) b.types=q3 at HT HR2;clear hr hq4;by_cases h2:q2=0
   case neg=>
    have HF:Hid (R=q2):=aF (by rw [HR2.out,aZ h2]);have e1:(q2 != 0)=true:=by simp [h2]
    clear HR2 h2;go_wp2_with (go_at_call 91;refine (HP.out _ HB.out).mono ?_;rintro e' w9 ⟨rfl,hw⟩;obtain rfl:=hw.symm)
    go_ret;exact ⟨by rw [HF.out];rfl,HB.out⟩
   subst h2;by_cases h3:q3=0
   case neg=>
    have HF:Hid (R=q3):=aF (by rw [HR2.out,bA rfl,aZ h3]);have e1:(q3 != 0)=true:=by simp [h3]
    clear HR2 h3;go_wp2_with (first | (go_at_call 42;refine (HT.out _ HB.out).mono ?_;rintro e' w2 ⟨rfl,hb2⟩;have HB2:=aF (HB.out.trans (hb2.mono HB.out.size));clear hb2) | (go_at_call 91;refine (HP.out _ HB.out).mono ?_;rintro e' w9 ⟨rfl,hw⟩;obtain rfl:=hw.symm))
    go_ret;exact ⟨by rw [HF.out];rfl,HB2.out⟩
   subst h3;have HR4:Hid (R=q4):=aF (by rw [HR2.out];rfl);clear HR2;by_cases hll:65535<b.locals.length
   ·have HF:Hid (R=15):=aF (by rw [HR4.out,<- HQ4.out,dR4,bA hll]);clear HR4 HQ4;go_wp2_with (first | (go_at_call 42;refine (HT.out _ HB.out).mono ?_;rintro e' w2 ⟨rfl,hb2⟩;have HB2:=aF (HB.out.trans (hb2.mono HB.out.size));have HC2:=aF (cP HCC.out hb2);have hsz2:=bN hsz hb2.size;clear hb2 y0 y1 y2 y3 y4 y5 y6;have y4:=HC2.out 4 _ rfl) | (go_at_call 91;refine (HP.out _ HB.out).mono ?_;rintro e' w9 ⟨rfl,hw⟩;obtain rfl:=hw.symm))
    all_goals first
     | (exfalso;omega)
     | (go_ret;exact ⟨by rw [HF.out];rfl,HB2.out⟩)
   have HRL:Hid (R=if localsE b.types.length (((b.locals.take 0).map (·.name)).reverse) (b.locals.drop 0)=0 then dR5 b else localsE b.types.length (((b.locals.take 0).map (·.name)).reverse) (b.locals.drop 0)):=aF (by rw [HR4.out,<- HQ4.out,dR4,aZ hll];rfl);clear HR4 HQ4;go_wp2_with (first | (go_at_call 42;refine (HT.out _ HB.out).mono ?_;rintro e' w2 ⟨rfl,hb2⟩;have HB2:=aF (HB.out.trans (hb2.mono HB.out.size));have HC2:=aF (cP HCC.out hb2);have hsz2:=bN hsz hb2.size;clear hb2 y0 y1 y2 y3 y4 y5 y6;have y4:=HC2.out 4 _ rfl) | (go_at_call 91;refine (HP.out _ HB.out).mono ?_;rintro e' w9 ⟨rfl,hw⟩;obtain rfl:=hw.symm))
   all_goals try (exfalso;omega)
   clear y4 HB HCC hsz;go_loopw [5,6] (fun v i wr=>∃k:Nat,k<=b.locals.length/\i = .int .i64 k/\Hid (aA (bdM b A1 c1 A2 c2 A3 c3 A4 c4 A5 c5 []) wr w.heap.size)/\Hid (Below w.heap.size w wr)/\w.heap.size<wr.heap.size/\Hid (wr.ownsRow (w.heap.size+1) 9 1 v k (((b.locals.take k).map (·.name)).map Value.string))/\Hid (R=if localsE b.types.length (((b.locals.take k).map (·.name)).reverse) (b.locals.drop k)=0 then dR5 b else localsE b.types.length (((b.locals.take k).map (·.name)).reverse) (b.locals.drop k))) (fun _ i _=>b.locals.length - (intOf i).toNat)
   case atStart=>exact ⟨0,by omega,rfl,HC2,HB2,hsz2,aF (World.ownsRow_nil _ _ _ _),HRL⟩
   case round=>
    clear HC2 HB2 hsz2 HRL;obtain ⟨k,hk,rfl,HCC,HB,hsz,HO,hr⟩:=hrel;have hxl:((b.locals.take k).map (·.name)).length=k:=by simp;omega
    obtain ⟨B',d',hv,hsl,-⟩:=fD (R:=RN) (fun w B b o x h=>h) HO.out hxl;subst hv;have HSL:=aF hsl;clear hsl;have y4:=HCC.out 4 _ rfl;have y3:=HCC.out 3 _ rfl;by_cases hlt:k<b.locals.length
    ·obtain ⟨b3,o3,hA4,hb3,hx⟩:=HH.out.loc.sl.at_ hlt;simp only at hA4;subst hA4;have hd:=cV hlt;have hss:=HZ.out.locs _ (bM hlt);have htk:b.locals.take (k+1)=b.locals.take k ++ [b.locals[k]]:=bF hlt;obtain ⟨s,hsx⟩:∃s,b.locals[k]=s:=⟨_,rfl⟩;rw [hsx] at hx hd hss htk;obtain ⟨h0,h1⟩:=hx;have P0:=aF h0;have P1:=aF h1;have x0:=cO HB.out P0.out;have x1:=cO HB.out P1.out;have HIS:=aF (fun W=>gN s.name W hss);have HIX:=aF (nY _ s.name B' d' wr HSL.out);rw [hxl] at HIX;have HNG:=mL s.name 0 ((b.locals.take k).map (·.name))
     have HN:Hid (R=if isIdent s.name=false then 12 else if 0<=idxN s.name 0 ((b.locals.take k).map (·.name)) then 21 else if s.type<0\/(b.types.length:Int)<=s.type then 3 else if localsE b.types.length (((b.locals.take (k+1)).map (·.name)).reverse) (b.locals.drop (k+1))=0 then dR5 b else localsE b.types.length (((b.locals.take (k+1)).map (·.name)).reverse) (b.locals.drop (k+1))):=aF (by
      rw [hr.out,hd,localsE,rR,htk,bS,cJ,List.map_nil,List.reverse_append,List.reverse_singleton,List.singleton_append];by_cases h1:isIdent s.name=false
      ·simp [h1]
      ·rw [aZ h1,aZ h1];by_cases h2:memN s.name ((b.locals.take k).map (·.name))=true
       ·rw [bA h2,bA (HNG.2 h2)];rfl
       ·rw [aZ h2,aZ (fun hc=>h2 (HNG.1 hc))];by_cases h3:s.type<0\/(b.types.length:Int)<=s.type
        ·rw [bA h3,bA h3];rfl
        ·rw [aZ h3,aZ h3])
     have HTK:Hid ((((b.locals.take (k+1)).map (·.name)).map Value.string)=(((b.locals.take k).map (·.name)).map Value.string) ++ [Value.string s.name]):=aF (by rw [htk];simp);generalize idxN s.name 0 ((b.locals.take k).map (·.name))=q at HIX HN;clear h0 h1 hd htk hsx hr HNG hss;cases hid:isIdent s.name
     ·rw [hid] at HIS HN;have HF:Hid (R=12):=aF HN.out;clear hid HN;go_wp2_with (go_at_call 89;refine (HIS.out _).mono ?_;rintro e' w9 ⟨rfl,hw⟩;obtain rfl:=hw.symm)
      go_ret;exact ⟨by rw [HF.out];rfl,HB.out⟩
     rw [hid] at HIS HN;by_cases hq:0<=q
     ·have HF:Hid (R=21):=aF (by rw [HN.out,aZ (by simp),bA hq]);have e1:decide (0<=q)=true:=(by simp [hq]);clear hid HN;go_wp2_with (first | (go_at_call 90;refine HIX.out.mono ?_;rintro e' w9 ⟨rfl,hw⟩;obtain rfl:=hw.symm) | (go_at_call 89;refine (HIS.out _).mono ?_;rintro e' w9 ⟨rfl,hw⟩;obtain rfl:=hw.symm))
      all_goals first
       | (exfalso;omega)
       | (go_ret;exact ⟨by rw [HF.out];rfl,HB.out⟩)
     have e1:decide (0<=q)=false:=by simp;omega
     by_cases ht:s.type<0\/(b.types.length:Int)<=s.type
     ·have HF:Hid (R=3):=aF (by rw [HN.out,aZ (by simp),aZ hq,bA ht]);clear hid HN;by_cases ht0:s.type<0
      ·have e2:decide (s.type<0)=true:=(by simp [ht0]);clear ht;go_wp2_with (first | (go_at_call 90;refine HIX.out.mono ?_;rintro e' w9 ⟨rfl,hw⟩;obtain rfl:=hw.symm) | (go_at_call 89;refine (HIS.out _).mono ?_;rintro e' w9 ⟨rfl,hw⟩;obtain rfl:=hw.symm))
       all_goals try (exfalso;omega)
       go_quiet (fail)
       all_goals go_wp2_with fail
       all_goals first
        | (exfalso;omega)
        | (go_ret;exact ⟨by rw [HF.out];rfl,aG HB.out _⟩)
      ·have e2:decide (s.type<0)=false:=by simp;omega
       have e3:decide ((b.types.length:Int)<=s.type)=true:=by simp;omega
       clear ht;go_wp2_with (first | (go_at_call 90;refine HIX.out.mono ?_;rintro e' w9 ⟨rfl,hw⟩;obtain rfl:=hw.symm) | (go_at_call 89;refine (HIS.out _).mono ?_;rintro e' w9 ⟨rfl,hw⟩;obtain rfl:=hw.symm))
       all_goals try (exfalso;omega)
       go_quiet (fail)
       all_goals go_wp2_with fail
       all_goals first
        | (exfalso;omega)
        | (go_ret;exact ⟨by rw [HF.out];rfl,aG HB.out _⟩)
     ·have HF:=aF (show R=_ by rw [HN.out,aZ (by simp),aZ hq,aZ ht]);have e2:decide (s.type<0)=false:=by simp;omega
      have e3:decide ((b.types.length:Int)<=s.type)=false:=by simp;omega
      clear hid HN ht;go_wp2_with (first | (go_at_call 90;refine HIX.out.mono ?_;rintro e' w9 ⟨rfl,hw⟩;obtain rfl:=hw.symm) | (go_at_call 89;refine (HIS.out _).mono ?_;rintro e' w9 ⟨rfl,hw⟩;obtain rfl:=hw.symm))
      all_goals try (exfalso;omega)
      go_quiet (fail)
      obtain ⟨W,hW⟩:∃W,wr.drewN nq=W:=⟨_,rfl⟩;have HB2:Hid (Below w.heap.size w W):=aF (by rw [<- hW];exact aG HB.out _);have HO2:Hid (W.ownsRow (w.heap.size+1) 9 1 (.slice B' k d') k (((b.locals.take k).map (·.name)).map Value.string)):=aF (by rw [<- hW];exact HO.out);have HC2:Hid (aA (bdM b A1 c1 A2 c2 A3 c3 (some ⟨b3,o3,none⟩) c4 A5 c5 []) W w.heap.size):=aF (by rw [<- hW];exact HCC.out);have hsz2:w.heap.size<W.heap.size:=by rw [<- hW];exact hsz
      rw [hW];clear hW HO HB HCC y3 y4 x0 x1 hsz;have y4:=HC2.out 4 _ rfl;have x0:=cO HB2.out P0.out;obtain ⟨L,hL⟩:∃L,((b.locals.take k).map (·.name)).map Value.string=L:=⟨_,rfl⟩;rw [hL] at HO2 HTK;clear hL;have hown2:=HO2.out.alloc (.cells #[.string s.name] 9);go_wp2_with (at_builtin;refine wpList_append_own _ rfl _ _ 22 rfl (w.heap.size+1) 9 iS (.string { data:= #[] }) 1 16 Tryz.underlying22 iS0 iS1 iS2 iS3 rfl (by decide) _ _ _ rfl hown2 ⟨W.heap.size,0,none⟩ 1 1 [.string s.name] rfl rfl (xFH _ _) (xFG _) (by unfold maxLen;omega) (by omega) (by simp;omega) ?_)
      intro v' w2 hown' hgrow _;have HO3:Hid (w2.ownsRow (w.heap.size+1) 9 1 v' (k+1) (((b.locals.take (k+1)).map (·.name)).map Value.string)):=aF (by rw [HTK.out];exact hown');have hb3':Below (w.heap.size+1) W w2:=((aX _ _).alloc (by omega) _).grown hgrow (by simp;omega) (fun g hg=>(hown2.lt g hg).1);have HC3:Hid (aA (bdM b A1 c1 A2 c2 A3 c3 (some ⟨b3,o3,none⟩) c4 A5 c5 []) w2 w.heap.size):=aF (fun i v hi=>(hb3'.cell (p:=⟨w.heap.size,i,none⟩) (by simp)).trans (HC2.out i v hi));have HB3:Hid (Below w.heap.size w w2):=aF (HB2.out.trans (hb3'.mono (by omega)));have hsz3:w.heap.size<w2.heap.size:=bN hsz2 hb3'.size;clear hown' hgrow hown2 hb3' y4 x0;go_wp2_with fail
      go_roundw
      case rel=>exact ⟨k+1,by omega,by go_num,HC3,HB3,hsz3,HO3,HF⟩
      case measure=>simp [intOf];omega
    ·have HR5:Hid (R=dR5 b):=aF (by rw [hr.out,bE (by omega:b.locals.length<=k)];rfl);obtain ⟨-,-,-,-,-,y5,y6⟩:=aS HCC.out;clear hr HO HSL hxl;by_cases ha:b.args<0\/(b.locals.length:Int)<b.args
     ·have HF:Hid (R=3):=aF (by rw [HR5.out,dR5,bA ha]);clear HR5;go_wp2_with fail
      all_goals first
       | (exfalso;omega)
       | (go_ret;exact ⟨by rw [HF.out];rfl,HB.out⟩)
     have HR6:Hid (R=dR6 b):=aF (by rw [HR5.out,dR5,aZ ha]);clear HR5;unfold dR6 at HR6;obtain ⟨nb,hnb⟩:∃n,b.blocks.length=n:=⟨_,rfl⟩;rw [hnb] at HR6 y6 b1;clear hnb;by_cases hb0:nb=0
     ·subst hb0;have HF:Hid (R=15):=aF (by rw [HR6.out];rfl);clear HR6;go_wp2_with fail
      all_goals first
       | (exfalso;omega)
       | (go_ret;exact ⟨by rw [HF.out];rfl,HB.out⟩)
     have e1:((nb:Int) == 0)=false:=by simp;omega
     by_cases hb:65535<nb
     ·have HF:Hid (R=15):=aF (by rw [HR6.out,bA (.inr hb)]);clear HR6;go_wp2_with fail
      all_goals first
       | (exfalso;omega)
       | (go_ret;exact ⟨by rw [HF.out];rfl,HB.out⟩)
     ·have HF:Hid (R=0):=aF (by rw [HR6.out,aZ (by omega)]);clear HR6;go_wp2_with fail
      all_goals first
       | (exfalso;omega)
       | (go_ret;exact ⟨by rw [HF.out];rfl,HB.out⟩)
end
end Go.Proofs.YtcfchohkmkilpaaGreatDoor
