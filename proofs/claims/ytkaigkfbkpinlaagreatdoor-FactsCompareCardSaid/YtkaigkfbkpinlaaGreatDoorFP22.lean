/-
  Parts of the proof: Open FO FLK.
-/
import Derived.Test.YtkaigkfbkpinlaaGreatDoorFP0
import Derived.Test.YtkaigkfbkpinlaaGreatDoorRows
import Derived.Test.YtkaigkfbkpinlaaGreatDoorFP1
import Derived.Test.YtkaigkfbkpinlaaGreatDoorFP13
import Derived.Test.YtkaigkfbkpinlaaGreatDoorFP3
import Derived.Test.YtkaigkfbkpinlaaGreatDoorFP5
import Derived.Test.YtkaigkfbkpinlaaGreatDoorFP12
import Derived.Test.YtkaigkfbkpinlaaGreatDoorFP2
import Derived.Test.YtkaigkfbkpinlaaGreatDoorFP4
import Derived.Test.YtkaigkfbkpinlaaGreatDoorFP9
import Derived.ProofKit
import Derived.Below
import Derived.Deep.Slices
import Derived.Deep.Fields
import Derived.Lib.SmallJoins
import Derived.OpenShut
import Derived.LaidMore
import Derived.Stop.Joined
import Derived.Stop.LaidErr
import Derived.Lay
import Derived.SevenTiedAt
import Derived.Deep.DeepCutAuto
import Derived.JoinedOf
namespace Go.Proofs.YtkaigkfbkpinlaaGreatDoor
set_option maxRecDepth 100000
set_option maxHeartbeats 16000000
section
open Go Go.ChangeShapes Go.WideShapes Go.ChangeAt Go.RowKit Go.Joins Go.Deep
theorem xCV {α : Type} {n:Nat} {p:Nat-> α -> Prop} (h:∀i,i<n->∃x,p i x):∃xs:List α,xs.length=n/\∀i x,xs[i]?=some x->p i x:=by
 induction n with
 | zero=>exact ⟨[],rfl,by simp⟩
 | succ n ih=>
   obtain ⟨xs,hl,hx⟩:=ih (fun i hi=>h i (by omega));obtain ⟨y,hy⟩:=h n (by omega);refine ⟨xs ++ [y],by simp [hl],fun i x hi=>?_⟩;by_cases hin:i<n
   ·rw [List.getElem?_append_left (by omega)] at hi;exact hx i x hi
   ·have hlt:=(List.getElem?_eq_some_iff.1 hi).1;simp only [bE,cI] at hlt;obtain rfl:i=n:=by omega
    rw [<- hl,List.getElem?_concat_length] at hi;cases hi
    exact hy
theorem sG (b o n:Nat):(⟨b,o,none⟩:Addr).add n=⟨b,o+n,none⟩:=by
 unfold Addr.add;split
 ·next h=>subst h;rfl
 ·rfl
theorem uF {w:World} {a:Addr} {v:Value} (h:w.cell? a=some v):a.spot=none:=by
 cases hs:a.spot with
 | none=>rfl
 | some x=>
   unfold World.cell? at h;rw [hs] at h;split at h
   ·simp at h
   ·cases h
section
variable {H:Type} {enc:TypeId × Value->H} {P:Program} {w:World} {base:Nat} {spare:Nat->Bool} {held:Bool}
theorem vJ {α : Type} {k:Nat} {R:Rd α} {t e:TypeId} {fuel:Nat} {cs:List Value} {x:DataW H × List MemPlace} (ht:P.underlying t=some (.slice e)) (hk:P.cellsOf e=k) (hk0:0<k)
 (h:DataW.trod enc P w base spare held fuel t cs=some x)
 (hR:∀(b o n:Nat) (cs':List Value) (y:DataW H × List MemPlace),cs'.length=k->(∀j,j<k->w.cell? ⟨b,o+j,none⟩=cs'[j]?)->DataW.trod enc P w base spare held n e cs'=some y->∃z,R w w.heap.size b o z):
 ∃A c,∃xs:List α,cs=[.slice A xs.length c]/\Slc k R w A c xs:=by
 rcases open_slice ht h with ⟨rfl,_⟩ | ⟨a,len,cap,m,n,D,Pl,rfl,hb,hl,hm,hmm,hx,hi⟩
 ·exact ⟨none,0,[],rfl,Sl.nil,by simp,by omega⟩
 ·obtain ⟨b,off,s⟩:=a;have hlm:len<=m:=by rw [hmm];split <;> omega
  rw [hk] at hi;unfold maxLen at hm;by_cases h0:len=0
  ·subst h0;exact ⟨_,cap,[],rfl,Sl.nil,by simp,hm⟩
  ·have hfirst:∃v,w.cell? ⟨b,off,s⟩=some v:=by
    obtain ⟨cs',hc,_⟩:=hi 0 (by omega);obtain ⟨_,hcl,hat⟩:=World.cells?_some hc;have h1:=hat 0 hk0;rw [bF (by omega)] at h1;simp only [Nat.zero_mul,Addr.add,if_true] at h1;exact ⟨_,h1⟩
   obtain ⟨v,hv⟩:=hfirst;have hs:s=none:=uF hv;subst hs
   obtain ⟨xs,hxl,hxs⟩:=xCV (n:=len) (p:=fun i z=>R w w.heap.size b (off+i * k) z) (fun i hi'=>by
    obtain ⟨cs',hc,ht'⟩:=hi i (by omega);obtain ⟨_,hcl,hat⟩:=World.cells?_some hc;refine hR b (off+i * k) n cs' _ hcl (fun j hj=>?_) ht';have h1:=hat j hj;rw [sG,sG] at h1
    exact h1)
   exact ⟨_,cap,xs,by rw [hxl],⟨fun _=>⟨b,off,rfl,cF _ _ hv,hxs⟩,by omega,hm⟩⟩
theorem wR {e:TypeId} {fs:Array Field} {n:Nat} {cs:List Value} {y:DataW H × List MemPlace} (he:P.underlying e=some (.struct fs)) (hone:oneCellFields P fs=true)
 (h:DataW.trod enc P w base spare held n e cs=some y) (hl:cs.length=fs.size) {j:Nat} {f:Field} (hf:fs[j]?=some f):
 ∃v m y',cs[j]?=some v/\DataW.trod enc P w base spare held m f.type [v]=some y':=by
 obtain ⟨ys,m,_,_,_,hyl,hfl⟩:=DataW.trod_struct he h;have hjl:j<fs.size:=(Array.getElem?_eq_some_iff.1 hf).1;obtain ⟨ho,hk⟩:=hone_of hone j f hf;have h1:=hfl j f hf;rw [ho,hk,cJ (show j<cs.length by omega)] at h1;refine ⟨cs[j],m,ys[j],bF _,?_⟩;rw [bF (show j<ys.length by omega)] at h1;exact h1
end
theorem Tryz.own:ownKnob Tryz.prog.godebug=none:=by kernel_rfl
section
variable {H:Type} {enc:TypeId × Value->H} {w:World} {base:Nat} {spare:Nat->Bool} {held:Bool}
end
theorem vZ {α : Type}:∀{l:List α},l.length=2->∃a b,l=[a,b]
 | [a,b],_=>⟨a,b,rfl⟩
section
variable {H:Type} {enc:TypeId × Value->H} {P:Program} {w:World} {base:Nat} {spare:Nat->Bool} {held:Bool}
theorem vD {e:TypeId} {f0 f1:Field} {m:Nat} {cs:List Value} {a b:Int} {x:DataW H × List MemPlace} (he:P.underlying e=some (.struct #[f0,f1])) (hone:oneCellFields P #[f0,f1]=true) (hC:P.cellsOf e=2)
 (hf0:P.underlying f0.type=some (.int .i64)) (hf1:P.underlying f1.type=some (.int .i64))
 (h:DataW.trod enc P w base spare held m e cs=some x) (hx1:x.1 = .agg [.lit (.int .i64 a),.lit (.int .i64 b)]):cs[0]?=some (.int .i64 a)/\cs[1]?=some (.int .i64 b):=by
 obtain ⟨ys,n,_,rfl,hcl,hyl,hfl⟩:=DataW.trod_struct he h;obtain ⟨y0,y1,rfl⟩:=vZ (show ys.length=2 from hyl);obtain ⟨c0,c1,rfl⟩:=vZ (hcl.trans hC);obtain ⟨o0,k0⟩:=hone_of hone 0 f0 rfl;obtain ⟨o1,k1⟩:=hone_of hone 1 f1 rfl;have g0:=hfl 0 f0 rfl;have g1:=hfl 1 f1 rfl;rw [o0,k0] at g0;rw [o1,k1] at g1;obtain ⟨n0,e0,z0,_⟩:=DataW.trod_int (k:= .i64) (x:=y0) hf0 g0;obtain ⟨n1,e1,z1,_⟩:=DataW.trod_int (k:= .i64) (x:=y1) hf1 g1;simp only [List.map_cons,List.map_nil,z0,z1,DataW.agg.injEq,List.cons.injEq,DataW.lit.injEq,Lit.int.injEq,and_true,true_and] at hx1;obtain ⟨rfl,rfl⟩:=hx1;simp at e0 e1;subst e0 e1;exact ⟨rfl,rfl⟩
theorem sR {t e:TypeId} {n:Nat} {f0 f1:Field} {m:Nat} {cs:List Value} {l:List (Int × Int)} {x:DataW H × List MemPlace} (ht:P.underlying t=some (.array n e)) (he:P.underlying e=some (.struct #[f0,f1])) (hone:oneCellFields P #[f0,f1]=true) (hC:P.cellsOf e=2)
 (hf0:P.underlying f0.type=some (.int .i64)) (hf1:P.underlying f1.type=some (.int .i64))
 (h:DataW.trod enc P w base spare held m t cs=some x) (hx:x.1 = .agg (l.map fun p=> .agg [.lit (.int .i64 p.1),.lit (.int .i64 p.2)])) (i:Nat) (p:Int × Int) (hi:l[i]?=some p):
 cs[i * 2]?=some (.int .i64 p.1)/\cs[i * 2+1]?=some (.int .i64 p.2):=by
 obtain ⟨xs,k,_,rfl,hcl,hxl,hel⟩:=DataW.trod_array ht h;have hm:xs.map (·.1)=l.map fun p=> .agg [.lit (.int .i64 p.1),.lit (.int .i64 p.2)]:=by simpa using hx
 have hll:xs.length=l.length:=by simpa using congrArg List.length hm
 have hil:=(List.getElem?_eq_some_iff.1 hi).1;have h1:=hel i (by omega);rw [hC,bF (show i<xs.length by omega)] at h1
 have hx1:xs[i].1 = .agg [.lit (.int .i64 p.1),.lit (.int .i64 p.2)]:=by
  have:=congrArg (fun z=>z[i]?) hm;simp only [cP,hi,bF (show i<xs.length by omega),Option.map_some,cK] at this;exact this
 obtain ⟨q0,q1⟩:=vD he hone hC hf0 hf1 h1 hx1;simp only [List.getElem?_take,List.getElem?_drop,Nat.add_zero] at q0 q1;rw [bD (by omega)] at q0 q1;exact ⟨q0,q1⟩
end
theorem gUn : Tryz.prog.globalNamed "mirtower/valid.unary" = some 0 := by kernel_rfl
theorem gUnT:(Tryz.prog.globals[0]?).map (·.type)=some 232:=by kernel_rfl
theorem gBi : Tryz.prog.globalNamed "mirtower/valid.binary" = some 1 := by kernel_rfl
theorem gBiT:(Tryz.prog.globals[1]?).map (·.type)=some 233:=by kernel_rfl
theorem xAV:Tryz.prog.cellsOf 231=2:=by kernel_rfl
theorem mO {n:String} {g:Nat} {tid:TypeId} {k:Nat} {l:List (Int × Int)} {r:List (String × DataW Unit)} {w:World} (hg:Tryz.prog.globalNamed n=some g) (ht:(Tryz.prog.globals[g]?).map (·.type)=some tid) (hu:Tryz.prog.underlying tid=some (.array k 231)) (hk:l.length=k) (hk0:0<k) (hkm:k<=1000)
 (h:laidMet Tryz.prog ((n,.agg (l.map fun p=> .agg [.lit (.int .i64 p.1),.lit (.int .i64 p.2)])) :: r) w):Slc 2 RPr w (some ⟨g,0,none⟩) k l:=by
 subst hk;obtain ⟨ps,⟨g0,t0,cs0,f0,p0,q0,hg0,ht0,hv0,hd0,_,e0⟩,_,_⟩:=h;obtain rfl:=Option.some.inj (hg.symm.trans hg0);obtain rfl:=Option.some.inj (ht.symm.trans ht0);have hc:=fun i p hi=>sR hu Tryz.underlying231 (by kernel_rfl) xAV Tryz.underlying3 Tryz.underlying3 hd0 rfl i p hi
 have hcell:=fun i=>World.var?_cell hg0 hv0 i
 refine ⟨fun _=>⟨g,0,rfl,?_,fun i p hi=>?_⟩,bA _,by omega⟩
 ·obtain ⟨p,hp⟩:∃p,l[0]?=some p:=⟨_,bF hk0⟩;have h1:=(hc 0 p hp).1;have h2:=hcell 0;rw [show cs0[0]?=cs0.toList[0]? from (Array.getElem?_toList ..).symm,show cs0.toList[0]?=_ from h1] at h2;exact cF _ _ h2
 ·have h1:=hc i p hi;have h2:=hcell (i * 2);have h3:=hcell (i * 2+1);rw [<- Array.getElem?_toList,h1.1] at h2;rw [<- Array.getElem?_toList,h1.2] at h3;refine ⟨?_,?_⟩
  ·rw [Nat.zero_add];exact h2
  ·rw [Nat.zero_add];exact h3
end
section
open Go Go.ChangeShapes Go.WideShapes Go.ChangeAt Go.RowKit Go.Joins Go.Deep
section
variable {H:Type} (enc:TypeId × Value->H) (w:World) (base:Nat) (spare:Nat->Bool) (held:Bool)
def Opn {α : Type} (t:TypeId) (k:Nat) (R:Rd α):Prop:=∀(b o n:Nat) (cs:List Value) (y:DataW H × List MemPlace),cs.length=k->(∀j,j<k->w.cell? ⟨b,o+j,none⟩=cs[j]?)->DataW.trod enc Tryz.prog w base spare held n t cs=some y->∃z,R w w.heap.size b o z
end
def fitZ (x:Int):Prop:= -9223372036854775808<=x/\x<=9223372036854775807
structure FitG (f:Fct):Prop where
 ln:∀l∈f.loans,fitZ l.reg/\fitZ l.pt
 ed:∀x∈f.edges,fitZ x.1/\fitZ x.2
 ki:∀x∈f.killed,fitZ x.1/\fitZ x.2
 iv:∀x∈f.inval,fitZ x.1/\fitZ x.2
 li:∀x∈f.live,fitZ x.1/\fitZ x.2
section
variable {H:Type} {enc:TypeId × Value->H} {w:World} {base:Nat} {spare:Nat->Bool} {held:Bool}
def RBool:Rd Bool:=fun w _ b o x=>w.cell? ⟨b,o,none⟩=some (.bool x)
def RZ {α : Type} (R:Rd α) (G : α -> Prop):Rd α := fun w B b o x=>R w B b o x/\G x
theorem xDU {z:Int} (h:(Lit.int .i64 z).wf=true):fitZ z:=by
 simp [Lit.wf,IntKind.min,IntKind.max,IntKind.signed,IntKind.bits] at h;exact ⟨by omega,by omega⟩
theorem iQ:Opn enc w base spare held 3 1 (RZ RInt fitZ):=fun b o n cs y hl hc h=>by
 obtain ⟨z,rfl,_,hw⟩:=DataW.trod_int (k:= .i64) Tryz.underlying3 h;exact ⟨z,hc 0 (by omega),xDU hw⟩
theorem zG:Opn enc w base spare held 4 1 RBool:=fun b o n cs y hl hc h=>by
 obtain ⟨z,rfl,_⟩:=DataW.trod_bool Tryz.underlying4 h;exact ⟨z,hc 0 (by omega)⟩
theorem xEK {α : Type} {R:Rd α} {t e:TypeId} {k:Nat} (ht:Tryz.prog.underlying t=some (.slice e)) (hk:Tryz.prog.cellsOf e=k) (hk0:0<k) (hR:Opn enc w base spare held e k R):Opn enc w base spare held t 1 (RSl k R):=fun b o n cs y hl hc h=>by
 obtain ⟨A,c,xs,rfl,hs⟩:=vJ ht hk hk0 h hR;exact ⟨xs,A,c,hc 0 (by omega),hs.le,hs.big,hs.sl⟩
theorem fU {α : Type} {R:Rd α} {e:TypeId} {fs:Array Field} {n K b o:Nat} {cs:List Value} {y:DataW H × List MemPlace} (he:Tryz.prog.underlying e=some (.struct fs)) (h:DataW.trod enc Tryz.prog w base spare held n e cs=some y) (hl:cs.length=K)
 (hc:∀j,j<K->w.cell? ⟨b,o+j,none⟩=cs[j]?) (j:Nat) {f:Field} (hf:fs[j]?=some f) (off k:Nat) (ho:f.offset=off) (hk:Tryz.prog.cellsOf f.type=k) (hok:off+k<=K) (hR:Opn enc w base spare held f.type k R):∃z,R w w.heap.size b (o+off) z:=by
 obtain ⟨ys,m,_,_,_,hyl,hfl⟩:=DataW.trod_struct he h;have hjl:j<fs.size:=(Array.getElem?_eq_some_iff.1 hf).1;have h1:=hfl j f hf;rw [ho,hk,bF (show j<ys.length by omega)] at h1;refine hR b (o+off) m _ _ (by simp;omega) (fun i hi=>?_) h1;rw [List.getElem?_take,bD hi,List.getElem?_drop,Nat.add_assoc];exact hc (off+i) (by omega)
theorem xEM:Opn enc w base spare held 40 2 RPj:=fun b o n cs y hl hc h=>by
 obtain ⟨x0,h0⟩:=fU (R:=RZ RInt fitZ) Tryz.underlying40 h hl hc 0 rfl 0 1 rfl (by kernel_rfl) (by omega) iQ;obtain ⟨x1,h1⟩:=fU (R:=RZ RInt fitZ) Tryz.underlying40 h hl hc 1 rfl 1 1 rfl (by kernel_rfl) (by omega) iQ;exact ⟨⟨x0,x1⟩,h0.1,h1.1⟩
theorem xEL:Opn enc w base spare held 36 2 RPl:=fun b o n cs y hl hc h=>by
 obtain ⟨x0,h0⟩:=fU (R:=RZ RInt fitZ) Tryz.underlying36 h hl hc 0 rfl 0 1 rfl (by kernel_rfl) (by omega) iQ;obtain ⟨x1,h1⟩:=fU (R:=RSl 2 RPj) Tryz.underlying36 h hl hc 1 rfl 1 1 rfl (by kernel_rfl) (by omega) (xEK Tryz.underlying34 (by kernel_rfl) (by omega) xEM);exact ⟨⟨x0,x1⟩,h0.1,h1⟩
def FitL1 (l:Ln):Prop:=fitZ l.reg/\fitZ l.pt
theorem xEN:Opn enc w base spare held 38 5 (RZ RLn FitL1):=fun b o n cs y hl hc h=>by
 obtain ⟨x0,h0⟩:=fU (R:=RZ RInt fitZ) Tryz.underlying38 h hl hc 0 rfl 0 1 rfl (by kernel_rfl) (by omega) iQ;obtain ⟨x1,h1⟩:=fU (R:=RZ RInt fitZ) Tryz.underlying38 h hl hc 1 rfl 1 1 rfl (by kernel_rfl) (by omega) iQ;obtain ⟨x2,h2⟩:=fU (R:=RBool) Tryz.underlying38 h hl hc 2 rfl 2 1 rfl (by kernel_rfl) (by omega) zG;obtain ⟨x3,h3⟩:=fU (R:=RPl) Tryz.underlying38 h hl hc 3 rfl 3 2 rfl (by kernel_rfl) (by omega) xEL;exact ⟨⟨x0,x1,x2,x3⟩,⟨h0.1,h1.1,h2,h3⟩,⟨h0.2,h1.2⟩⟩
def FitPr (x:Int × Int):Prop:=fitZ x.1/\fitZ x.2
theorem rP:Opn enc w base spare held 42 2 (RZ RPr FitPr):=fun b o n cs y hl hc h=>by
 obtain ⟨ys,m,_,_,_,hyl,hfl⟩:=DataW.trod_array Tryz.underlying42 h;have hk:Tryz.prog.cellsOf 3=1:=by kernel_rfl
 have g:∀i,i<2->∃z:Int,w.cell? ⟨b,o+i,none⟩=some (.int .i64 z)/\fitZ z:=fun i hi=>by
  have h1:=hfl i hi;rw [hk,Nat.mul_one,bF (show i<ys.length by omega)] at h1
  obtain ⟨z,hz⟩:=iQ b (o+i) m _ _ (by simp;omega) (fun j hj=>by
   obtain rfl:j=0:=by omega
   rw [Nat.add_zero,List.getElem?_take,bD (by omega),List.getElem?_drop]
   exact hc (i+0) (by omega)) h1
  exact ⟨z,hz⟩
 obtain ⟨z0,h0,f0⟩:=g 0 (by omega);obtain ⟨z1,h1,f1⟩:=g 1 (by omega);exact ⟨(z0,z1),⟨h0,h1⟩,⟨f0,f1⟩⟩
theorem kS {α : Type} {k:Nat} {R:Rd α} {G : α -> Prop} {A:Option Addr} {c:Nat} {xs:List α} (h:Slc k (RZ R G) w A c xs):Slc k R w A c xs/\∀x∈xs,G x:=by
 refine ⟨⟨fun hx=>?_,h.le,h.big⟩,fun x hx=>?_⟩
 ·obtain ⟨b,o,e,hb,g⟩:=h.sl hx;exact ⟨b,o,e,hb,fun i x hi=>(g i x hi).1⟩
 ·obtain ⟨i,hi,rfl⟩:=List.mem_iff_getElem.1 hx;obtain ⟨b,o,e,hb,g⟩:=h.sl (by omega);exact (g i _ (bF hi)).2
theorem oG {α : Type} {k:Nat} {R:Rd α} {t e:TypeId} {n:Nat} {v:Value} {y:DataW H × List MemPlace} (ht:Tryz.prog.underlying t=some (.slice e)) (hk:Tryz.prog.cellsOf e=k) (hk0:0<k) (hR:Opn enc w base spare held e k R)
 (h:DataW.trod enc Tryz.prog w base spare held n t [v]=some y):∃A c xs,v = .slice A (List.length xs) c/\Slc k R w A c xs:=by
 obtain ⟨A,c,xs,e,hs⟩:=vJ ht hk hk0 h hR;exact ⟨A,c,xs,by simpa using e,hs⟩
theorem sW {r:Reach} {b0:Nat} {v:Value} {d:DataW H} {p:List MemPlace} (hv:Value.okWide Tryz.prog w r b0 25 v) (h:DataW.Trod enc Tryz.prog w base spare held 25 v d p):
 ∃f fh,v = .agg (fcC f fh).toArray/\FcAt w f fh/\FitG f:=by
 obtain ⟨cs,rfl,hcs⟩:=okWide_struct Tryz.underlying25 hv;have hc5:cs.size=5:=hcs.trans (by kernel_rfl);obtain ⟨fuel,hf⟩:=h;have hl:(Value.agg cs).cells.toList.length=5:=by simpa [Value.cells] using hc5
 have hg:∀i:Nat,(Value.agg cs).cells.toList[i]?=cs[i]?:=fun i=>by simp only [Value.cells];exact Array.getElem?_toList ..
 have F:=fun (j:Nat) (f:Field) hj=>wR (j:=j) (f:=f) Tryz.underlying25 (by kernel_rfl) hf hl hj
 obtain ⟨v0,m0,y0,e0,g0⟩:=F 0 _ rfl;obtain ⟨v1,m1,y1,e1,g1⟩:=F 1 _ rfl;obtain ⟨v2,m2,y2,e2,g2⟩:=F 2 _ rfl;obtain ⟨v3,m3,y3,e3,g3⟩:=F 3 _ rfl;obtain ⟨v4,m4,y4,e4,g4⟩:=F 4 _ rfl;clear F;rw [hg] at e0 e1 e2 e3 e4;obtain ⟨A0,c0,ln,rfl,s0⟩:=oG Tryz.underlying22 (by kernel_rfl) (by omega) xEN g0;obtain ⟨A1,c1,ed,rfl,s1⟩:=oG Tryz.underlying23 (by kernel_rfl) (by omega) rP g1;obtain ⟨A2,c2,ki,rfl,s2⟩:=oG Tryz.underlying23 (by kernel_rfl) (by omega) rP g2;obtain ⟨A3,c3,iv,rfl,s3⟩:=oG Tryz.underlying23 (by kernel_rfl) (by omega) rP g3;obtain ⟨A4,c4,li,rfl,s4⟩:=oG Tryz.underlying23 (by kernel_rfl) (by omega) rP g4;obtain ⟨s0,z0⟩:=kS s0;obtain ⟨s1,z1⟩:=kS s1;obtain ⟨s2,z2⟩:=kS s2;obtain ⟨s3,z3⟩:=kS s3;obtain ⟨s4,z4⟩:=kS s4;refine ⟨⟨ln,ed,ki,iv,li⟩,⟨A0,c0,A1,c1,A2,c2,A3,c3,A4,c4⟩,?_,⟨s0,s1,s2,s3,s4⟩,⟨z0,z1,z2,z3,z4⟩⟩;congr 1
 apply Array.ext
 ·rw [hc5];rfl
 ·intro i h1 h2;have hi:i<5:=by omega
  rcases (show i=0\/i=1\/i=2\/i=3\/i=4 by omega) with rfl | rfl | rfl | rfl | rfl
  all_goals (apply Option.some.inj;rw [<- Array.getElem?_eq_getElem h1];first | (rw [e0];rfl) | (rw [e1];rfl) | (rw [e2];rfl) | (rw [e3];rfl) | (rw [e4];rfl))
theorem rQ {r:Reach} {b0:Nat} {v:Value} {d:DataW H} {p:List MemPlace} (hv:Value.okWide Tryz.prog w r b0 3 v) (h:DataW.Trod enc Tryz.prog w base spare held 3 v d p):∃x:Int,v = .int .i64 x/\ -9223372036854775808<=x/\x<=9223372036854775807:=by
 obtain ⟨x,rfl,-,-,hw⟩:=open_int Tryz.underlying3 hv h;refine ⟨x,rfl,?_⟩;simp [Lit.wf,IntKind.min,IntKind.max,IntKind.signed,IntKind.bits] at hw;omega
end
section
variable {H:Type} {enc:TypeId × Value->H} {P:Program}
theorem gX (hl:laidOutB P=true) {W W':World} {sp:Nat->Bool}:∀(ts:List TypeId) (vs:List Value) (ds:List (DataW H)) (ps:List MemPlace),
 (∀t∈ts,P.readableRec t=true/\t<P.types.size)->DataW.TrodAll enc P W 0 (fun _=>true) true ts vs ds ps->(∀p∈ps,W.sameAt W' p)->(∀p∈ps,sp p.block=true)->DataW.TrodAll enc P W' 0 sp true ts vs ds ps
 | [],[],[],_,_,h,_,_=>h
 | t :: ts,v :: vs,d :: ds,ps,hr,h,hs,hp=>by
   obtain ⟨p,q,h1,h2,rfl⟩:=h
   exact ⟨p,q,WideElems.Trod_stays hl (hr t (by simp)).1 (hr t (by simp)).2 h1 (fun x hx=>hs x (by simp [hx])) (fun x hx=>hp x (by simp [hx])),
    gX hl ts vs ds q (fun t' ht=>hr t' (by simp [ht])) h2 (fun x hx=>hs x (by simp [hx])) (fun x hx=>hp x (by simp [hx])),rfl⟩
 | [],[],_ :: _,_,_,h,_,_=>h.elim
 | [],_ :: _,_,_,_,h,_,_=>h.elim
 | _ :: _,[],_,_,_,h,_,_=>h.elim
 | _ :: _,_ :: _,[],_,_,h,_,_=>h.elim
theorem zU {f:Func} {s:ChangeSpec} {apart fresh handsOn:Bool} {W W':World} {args:Array Value} {ds:List (DataW H)} {before:List MemPlace} {tb:TypeId}
 (hl:laidOutB P=true) (hvars:s.vars=[]) (hrt:f.resultTypes = #[tb]) (htb:P.underlying tb=some .bool)
 (hfn:s.fn H ds={ results:=[.lit (.bool true)],args:=ds }) (hrd:∀t∈f.params.toList,P.readableRec t=true/\t<P.types.size)
 (hW:DataW.Whole enc P f.params.toList s.vars apart W args.toList ds [] before) (hb:Below W.heap.size W W'):
 s.post enc P f apart fresh handsOn false W args (.bool true) W':=by
 have hlt:∀p∈before,p.block<W.heap.size:=fun p hp=>hW.lt p hp
 have hW2:=hW;obtain ⟨p,q,hA,hV,hbe,_,_⟩:=hW2;rw [hvars] at hV;obtain ⟨_,rfl⟩:=trodVars_none hV;rw [List.append_nil] at hbe;subst hbe;refine ⟨ds,[],before,[],before,[],hW,?_,?_,?_,World.keptBut_mono (fun p hp=>⟨hp,Or.inr (Or.inl hp)⟩) (hb.frame (· ∈ before)),fun h=>by cases h⟩
 ·rw [List.append_nil,hfn,hrt];exact trodAll_mk1 (shut_bool htb true)
 ·rw [List.append_nil,hfn];exact gX hl _ _ _ _ hrd hA (fun x hx=>hb.same (hlt x hx)) (fun x hx=>by simpa using hlt x hx)
 ·rw [List.append_nil,hfn,hvars];rfl
end
theorem Tryz.laidOut:laidOutB Tryz.prog=true:=by kernel_rfl
theorem xDW {w:World} (h:laidMetH Tryz.prog Rows.factsCheckRow.laid w):TabsOk w:=by
 rw [MakeChecks.laidMetH_plain _ _ _ (by kernel_rfl)] at h
 exact ⟨mO gUn gUnT Tryz.underlying232 rfl (by omega) (by omega) (l:=kN) h.tail,
  mO gBi gBiT Tryz.underlying233 rfl (by omega) (by omega) (l:=gW) h.tail.tail⟩
end
section
open Go Go.RowKit
theorem cU {a b:Bool} (ha:a=true) (hb:b=true):(a && b)=true:=by rw [ha,hb];rfl
theorem lC:(Rows.factsCheckRow.wf (OpenSpec.ofChange Rows.factsCheckSpec))=true:=by kernel_rfl
theorem lB:(laidOutB Tryz.prog)=true:=by kernel_rfl
theorem lA:(mapsRowed Tryz.prog)=true:=by kernel_rfl
theorem kZ:(Tryz.f3.params.all (Tryz.prog.readableRec ·))=true:=by kernel_rfl
theorem kY:(namedTie Tryz.prog Rows.factsCheckRow.named Rows.factsCheckSpec.vars)=true:=by kernel_rfl
theorem kX:((Rows.factsCheckRow.stops == []))=true:=by kernel_rfl
theorem kW:((Tryz.prog.stops == []))=true:=by kernel_rfl
theorem kV:((Rows.factsCheckRow.knobs == []))=true:=by kernel_rfl
theorem kU:((Tryz.prog.stopKnobs == []))=true:=by kernel_rfl
theorem kT:((Rows.factsCheckRow.inPlace == Tryz.prog.inPlace 3))=true:=by kernel_rfl
theorem jW:((Rows.factsCheckRow.unfollowed == Tryz.prog.unfollowed 3))=true:=by kernel_rfl
theorem jV:((Rows.factsCheckRow.recurses == Tryz.prog.recurses 3))=true:=by kernel_rfl
theorem jU:((Rows.factsCheckRow.named == Tryz.prog.varsNamed 3))=true:=by kernel_rfl
theorem jT:((Rows.factsCheckRow.maps == (Tryz.f3.params.toList ++ Rows.factsCheckSpec.plain.varTypes Tryz.prog).any (Tryz.prog.mapsRec ·)))=true:=by kernel_rfl
theorem jS:((Rows.factsCheckRow.ifaces == (Tryz.f3.params.toList ++ Rows.factsCheckSpec.plain.varTypes Tryz.prog).any (Tryz.prog.ifacesRec ·)))=true:=by kernel_rfl
theorem jR:((Rows.factsCheckRow.mapsOut == Tryz.prog.mapsAmong Tryz.f3.resultTypes.toList))=true:=by kernel_rfl
theorem jQ:((Rows.factsCheckRow.loops == (Tryz.f3.params.toList ++ Rows.factsCheckSpec.plain.varTypes Tryz.prog).any (Tryz.prog.loopsFrom ·)))=true:=by kernel_rfl
theorem jP:((Rows.factsCheckRow.wideKeys == (Tryz.f3.params.toList ++ Rows.factsCheckSpec.plain.varTypes Tryz.prog ++ Tryz.f3.resultTypes.toList).any (Tryz.prog.wideKeysFrom ·)))=true:=by kernel_rfl
theorem jO:(Rows.factsCheckSpec.vars.all (Tryz.prog.varReadable ·))=true:=by kernel_rfl
theorem jN:(Tryz.f3.resultTypes.all (fun t=>Tryz.prog.readableRec t && decide (t<Tryz.prog.types.size)))=true:=by kernel_rfl
theorem jM:((Rows.factsCheckRow.ifacesOut == Tryz.f3.resultTypes.toList.any (Tryz.prog.ifacesRec ·)))=true:=by kernel_rfl
theorem jL:((Rows.factsCheckRow.loopsOut == Tryz.f3.resultTypes.toList.any (Tryz.prog.loopsFrom ·)))=true:=by kernel_rfl
theorem jK:((Rows.factsCheckRow.plainKeys == Tryz.prog.plainKeys))=true:=by kernel_rfl
theorem jJ:(Rows.factsCheckRow.shortTexts.isNone)=true:=by kernel_rfl
theorem jI:(Tryz.prog.stopsHeard)=true:=by kernel_rfl
theorem jH:(Tryz.prog.mayEnter)=true:=by kernel_rfl
theorem jG:((Rows.factsCheckRow.lifted == Tryz.prog.liftsFinal))=true:=by kernel_rfl
theorem jF:((Tryz.prog.make == some Rows.factsCheckRow.make))=true:=by kernel_rfl
theorem jE:((Rows.factsCheckRow.kinds == (if Rows.factsCheckRow.domain.isEmpty then [] else Tryz.f3.params.toList.map fun t=>match Tryz.prog.underlying t with | some (.int k)=>some k | _=>none)))=true:=by kernel_rfl
theorem jD:((Rows.factsCheckRow.pinned == Rows.factsCheckRow.pinnedBy))=true:=by kernel_rfl
theorem jC:((Rows.factsCheckRow.veiled == (Tryz.f3.params.toList ++ Rows.factsCheckSpec.plain.varTypes Tryz.prog ++ Tryz.f3.resultTypes.toList).any (Tryz.prog.veiledRec ·)))=true:=by kernel_rfl
theorem jB:(Rows.factsCheckRow.veiledFits Tryz.prog Tryz.f3.params.toList (Tryz.f3.params.toList ++ Rows.factsCheckSpec.plain.varTypes Tryz.prog ++ Tryz.f3.resultTypes.toList))=true:=by kernel_rfl
theorem gJ:joinedFacts Tryz.prog 3 Tryz.f3 Rows.factsCheckSpec Rows.factsCheckRow=true:=(cU (cU (cU (cU (cU (cU (cU (cU (cU (cU (cU (cU (cU (cU (cU (cU (cU (cU (cU (cU (cU (cU (cU (cU (cU (cU (cU (cU (cU (cU (cU lC lB) lA) kZ) kY) kX) kW) kV) kU) kT) jW) jV) jU) jT) jS) jR) jQ) jP) jO) jN) jM) jL) jK) jJ) jI) jH) jG) jF) jE) jD) jC) jB)
end
end Go.Proofs.YtkaigkfbkpinlaaGreatDoor
