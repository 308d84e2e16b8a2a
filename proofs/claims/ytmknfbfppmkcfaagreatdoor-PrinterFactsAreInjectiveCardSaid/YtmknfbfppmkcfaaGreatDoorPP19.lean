/-
  Parts of the proof: Y60.
-/
import Derived.Test.YtmknfbfppmkcfaaGreatDoorPP0
import Derived.Test.YtmknfbfppmkcfaaGreatDoorPP10
import Derived.Test.YtmknfbfppmkcfaaGreatDoorPP18
namespace Go.Proofs.YtmknfbfppmkcfaaGreatDoor
set_option maxRecDepth 100000
set_option maxHeartbeats 16000000
section
open Go Go.ChangeShapes Go.WideShapes Go.ChangeAt Go.RowKit Go.Joins Go.Deep
section
variable {H:Type} (enc:TypeId × Value->H) (w:World) (base:Nat) (spare:Nat->Bool) (held:Bool)
def Opn {α : Type} (t:TypeId) (k:Nat) (R:Rd α):Prop:=∀(b o n:Nat) (cs:List Value) (y:DataW H × List MemPlace),cs.length=k->(∀j,j<k->w.cell? ⟨b,o+j,none⟩=cs[j]?)->DataW.trod enc Tryz.prog w base spare held n t cs=some y->∃z,R w w.heap.size b o z
end
section
variable {H:Type} {enc:TypeId × Value->H} {w:World} {base:Nat} {spare:Nat->Bool} {held:Bool}
def RNZ:Rd ByteArray:=fun w B b o x=>RN w B b o x/\x.size<=9223372036854775807
def RBool:Rd Bool:=fun w _ b o x=>w.cell? ⟨b,o,none⟩=some (.bool x)
def RZ {α : Type} (R:Rd α) (G : α -> Prop):Rd α := fun w B b o x=>R w B b o x/\G x
theorem wJ {z:Int} (h:(Lit.int .i64 z).wf=true):fitN z:=by
 simp [Lit.wf,IntKind.min,IntKind.max,IntKind.signed,IntKind.bits] at h;exact ⟨by omega,by omega⟩
theorem dK:Opn enc w base spare held 3 1 (RZ RInt fitN):=fun b o n cs y hl hc h=>by
 obtain ⟨z,rfl,_,hw⟩:=DataW.trod_int (k:= .i64) Tryz.underlying3 h;exact ⟨z,hc 0 (by omega),wJ hw⟩
theorem xW:Opn enc w base spare held 2 1 (RZ RInt fitN):=fun b o n cs y hl hc h=>by
 obtain ⟨z,rfl,_,hw⟩:=DataW.trod_int (k:= .i64) Tryz.underlying2 h;exact ⟨z,hc 0 (by omega),wJ hw⟩
theorem gD {α : Type} {k:Nat} {R:Rd α} {G : α -> Prop} {w:World} {B b o:Nat} {xs:List α} (h:RSl k (RZ R G) w B b o xs):RSl k R w B b o xs/\∀x∈xs,G x:=by
 obtain ⟨A,c,h1,h2,h3,h4⟩:=h;refine ⟨⟨A,c,h1,h2,h3,fun hx=>?_⟩,fun x hx=>?_⟩
 ·obtain ⟨b,o,e,hb,g⟩:=h4 hx;exact ⟨b,o,e,hb,fun i x hi=>(g i x hi).1⟩
 ·obtain ⟨i,hi,rfl⟩:=List.mem_iff_getElem.1 hx;obtain ⟨b,o,e,hb,g⟩:=h4 (by omega);exact (g i _ (bD hi)).2
theorem nZ:Opn enc w base spare held 4 1 RBool:=fun b o n cs y hl hc h=>by
 obtain ⟨z,rfl,_⟩:=DataW.trod_bool Tryz.underlying4 h;exact ⟨z,hc 0 (by omega)⟩
theorem mY:Opn enc w base spare held 9 1 RNZ:=fun b o n cs y hl hc h=>by
 obtain ⟨z,rfl,_,hz⟩:=DataW.trod_string Tryz.underlying9 h;exact ⟨z,hc 0 (by omega),by unfold maxLen at hz;omega⟩
theorem iY {α : Type} {R:Rd α} {t e:TypeId} {k:Nat} (ht:Tryz.prog.underlying t=some (.slice e)) (hk:Tryz.prog.cellsOf e=k) (hk0:0<k) (hR:Opn enc w base spare held e k R):Opn enc w base spare held t 1 (RSl k R):=fun b o n cs y hl hc h=>by
 obtain ⟨A,c,xs,rfl,hs⟩:=rU ht hk hk0 h hR;exact ⟨xs,A,c,hc 0 (by omega),hs.le,hs.big,hs.sl⟩
theorem cW {α : Type} {R:Rd α} {e:TypeId} {fs:Array Field} {n K b o:Nat} {cs:List Value} {y:DataW H × List MemPlace} (he:Tryz.prog.underlying e=some (.struct fs)) (h:DataW.trod enc Tryz.prog w base spare held n e cs=some y) (hl:cs.length=K)
 (hc:∀j,j<K->w.cell? ⟨b,o+j,none⟩=cs[j]?) (j:Nat) {f:Field} (hf:fs[j]?=some f) (off k:Nat) (ho:f.offset=off) (hk:Tryz.prog.cellsOf f.type=k) (hok:off+k<=K) (hR:Opn enc w base spare held f.type k R):∃z,R w w.heap.size b (o+off) z:=by
 obtain ⟨ys,m,_,_,_,hyl,hfl⟩:=DataW.trod_struct he h;have hjl:j<fs.size:=(Array.getElem?_eq_some_iff.1 hf).1;have h1:=hfl j f hf;rw [ho,hk,bD (show j<ys.length by omega)] at h1;refine hR b (o+off) m _ _ (by simp;omega) (fun i hi=>?_) h1;rw [List.getElem?_take,bA hi,List.getElem?_drop,Nat.add_assoc];exact hc (off+i) (by omega)
theorem wP:Opn enc w base spare held 102 2 (RZ RPj fitJ):=fun b o n cs y hl hc h=>by
 obtain ⟨x0,h0⟩:=cW (R:=RZ RInt fitN) Tryz.underlying102 h hl hc 0 rfl 0 1 rfl (by kernel_rfl) (by omega) dK;obtain ⟨x1,h1⟩:=cW (R:=RZ RInt fitN) Tryz.underlying102 h hl hc 1 rfl 1 1 rfl (by kernel_rfl) (by omega) dK;exact ⟨⟨x0,x1⟩,⟨h0.1,h1.1⟩,h1.2⟩
def FitP (p:Plc):Prop:=∀x∈p.proj,fitJ x
theorem nY:Opn enc w base spare held 46 2 (RZ RPl FitP):=fun b o n cs y hl hc h=>by
 obtain ⟨x0,h0⟩:=cW (R:=RZ RInt fitN) Tryz.underlying46 h hl hc 0 rfl 0 1 rfl (by kernel_rfl) (by omega) dK;obtain ⟨x1,h1⟩:=cW (R:=RSl 2 (RZ RPj fitJ)) Tryz.underlying46 h hl hc 1 rfl 1 1 rfl (by kernel_rfl) (by omega) (iY Tryz.underlying44 (by kernel_rfl) (by omega) wP);obtain ⟨g1,g2⟩:=gD h1;exact ⟨⟨x0,x1⟩,⟨h0.1,g1⟩,g2⟩
theorem wQ:Opn enc w base spare held 160 4 (RZ ROp FitO):=fun b o n cs y hl hc h=>by
 obtain ⟨x0,h0⟩:=cW (R:=RZ RInt fitN) Tryz.underlying160 h hl hc 0 rfl 0 1 rfl (by kernel_rfl) (by omega) dK;obtain ⟨x1,h1⟩:=cW (R:=RZ RPl FitP) Tryz.underlying160 h hl hc 1 rfl 1 2 rfl (by kernel_rfl) (by omega) nY;obtain ⟨x2,h2⟩:=cW (R:=RZ RInt fitN) Tryz.underlying160 h hl hc 2 rfl 3 1 rfl (by kernel_rfl) (by omega) xW;exact ⟨⟨x0,x1,x2⟩,⟨h0.1,h1.1,h2.1⟩,⟨h1.2,h2.2⟩⟩
theorem zH:Opn enc w base spare held 85 7 (RZ RRv FitR):=fun b o n cs y hl hc h=>by
 obtain ⟨x0,h0⟩:=cW (R:=RZ RInt fitN) Tryz.underlying85 h hl hc 0 rfl 0 1 rfl (by kernel_rfl) (by omega) dK;obtain ⟨x1,h1⟩:=cW (R:=RZ RInt fitN) Tryz.underlying85 h hl hc 1 rfl 1 1 rfl (by kernel_rfl) (by omega) dK;obtain ⟨x2,h2⟩:=cW (R:=RZ RInt fitN) Tryz.underlying85 h hl hc 2 rfl 2 1 rfl (by kernel_rfl) (by omega) dK;obtain ⟨x3,h3⟩:=cW (R:=RBool) Tryz.underlying85 h hl hc 3 rfl 3 1 rfl (by kernel_rfl) (by omega) nZ;obtain ⟨x4,h4⟩:=cW (R:=RZ RPl FitP) Tryz.underlying85 h hl hc 4 rfl 4 2 rfl (by kernel_rfl) (by omega) nY;obtain ⟨x5,h5⟩:=cW (R:=RSl 4 (RZ ROp FitO)) Tryz.underlying85 h hl hc 5 rfl 6 1 rfl (by kernel_rfl) (by omega) (iY Tryz.underlying59 (by kernel_rfl) (by omega) wQ);obtain ⟨g1,g2⟩:=gD h5;exact ⟨⟨x0,x1,x2,x3,x4,x5⟩,⟨h0.1,h1.1,h2.1,h3,h4.1,g1⟩,⟨h4.2,g2⟩⟩
theorem zG:Opn enc w base spare held 87 11 (RZ RSt FitS):=fun b o n cs y hl hc h=>by
 obtain ⟨x0,h0⟩:=cW (R:=RZ RInt fitN) Tryz.underlying87 h hl hc 0 rfl 0 1 rfl (by kernel_rfl) (by omega) dK;obtain ⟨x1,h1⟩:=cW (R:=RZ RPl FitP) Tryz.underlying87 h hl hc 1 rfl 1 2 rfl (by kernel_rfl) (by omega) nY;obtain ⟨x2,h2⟩:=cW (R:=RZ RRv FitR) Tryz.underlying87 h hl hc 2 rfl 3 7 rfl (by kernel_rfl) (by omega) zH;obtain ⟨x3,h3⟩:=cW (R:=RZ RInt fitN) Tryz.underlying87 h hl hc 3 rfl 10 1 rfl (by kernel_rfl) (by omega) dK;exact ⟨⟨x0,x1,x2,x3⟩,⟨h0.1,h1.1,h2.1,h3.1⟩,⟨h1.2,h2.2⟩⟩
def NmTm (x:Trm):Prop:=x.name.size<=9223372036854775807/\FitTm x
theorem zF:Opn enc w base spare held 61 6 (RZ RTm NmTm):=fun b o n cs y hl hc h=>by
 obtain ⟨x0,h0⟩:=cW (R:=RZ RInt fitN) Tryz.underlying61 h hl hc 0 rfl 0 1 rfl (by kernel_rfl) (by omega) dK;obtain ⟨x1,h1⟩:=cW (R:=RSl 1 (RZ RInt fitN)) Tryz.underlying61 h hl hc 1 rfl 1 1 rfl (by kernel_rfl) (by omega) (iY Tryz.underlying58 (by kernel_rfl) (by omega) dK);obtain ⟨x2,h2⟩:=cW (R:=RSl 4 (RZ ROp FitO)) Tryz.underlying61 h hl hc 2 rfl 2 1 rfl (by kernel_rfl) (by omega) (iY Tryz.underlying59 (by kernel_rfl) (by omega) wQ);obtain ⟨x3,h3⟩:=cW (R:=RZ RPl FitP) Tryz.underlying61 h hl hc 3 rfl 3 2 rfl (by kernel_rfl) (by omega) nY;obtain ⟨x4,h4⟩:=cW (R:=RNZ) Tryz.underlying61 h hl hc 4 rfl 5 1 rfl (by kernel_rfl) (by omega) mY;obtain ⟨g1,g2⟩:=gD h1;obtain ⟨k1,k2⟩:=gD h2;exact ⟨⟨x0,x1,x2,x3,x4⟩,⟨h0.1,g1,k1,h3.1,h4.1⟩,h4.2,⟨h3.2,k2,g2⟩⟩
structure NmBk (x:Blk):Prop where
 nm:x.term.name.size<=9223372036854775807
 tm:FitTm x.term
 st:∀s∈x.stmts,FitS s
theorem zK:Opn enc w base spare held 64 7 (RZ RBk NmBk):=fun b o n cs y hl hc h=>by
 obtain ⟨x0,h0⟩:=cW (R:=RSl 11 (RZ RSt FitS)) Tryz.underlying64 h hl hc 0 rfl 0 1 rfl (by kernel_rfl) (by omega) (iY Tryz.underlying62 (by kernel_rfl) (by omega) zG);obtain ⟨x1,h1⟩:=cW (R:=RZ RTm NmTm) Tryz.underlying64 h hl hc 1 rfl 1 6 rfl (by kernel_rfl) (by omega) zF;obtain ⟨g1,g2⟩:=gD h0;exact ⟨⟨x0,x1⟩,⟨g1,h1.1⟩,⟨h1.2.1,h1.2.2,g2⟩⟩
def NmLc (x:Lc):Prop:=x.name.size<=9223372036854775807/\fitN x.type
theorem zJ:Opn enc w base spare held 48 2 (RZ RLc NmLc):=fun b o n cs y hl hc h=>by
 obtain ⟨x0,h0⟩:=cW (R:=RNZ) Tryz.underlying48 h hl hc 0 rfl 0 1 rfl (by kernel_rfl) (by omega) mY;obtain ⟨x1,h1⟩:=cW (R:=RZ RInt fitN) Tryz.underlying48 h hl hc 1 rfl 1 1 rfl (by kernel_rfl) (by omega) dK;exact ⟨⟨x0,x1⟩,⟨h0.1,h1.1⟩,h0.2,h1.2⟩
theorem zE:Opn enc w base spare held 81 5 (RZ RTy FitT):=fun b o n cs y hl hc h=>by
 obtain ⟨x0,h0⟩:=cW (R:=RZ RInt fitN) Tryz.underlying81 h hl hc 0 rfl 0 1 rfl (by kernel_rfl) (by omega) dK;obtain ⟨x1,h1⟩:=cW (R:=RBool) Tryz.underlying81 h hl hc 1 rfl 1 1 rfl (by kernel_rfl) (by omega) nZ;obtain ⟨x2,h2⟩:=cW (R:=RZ RInt fitN) Tryz.underlying81 h hl hc 2 rfl 2 1 rfl (by kernel_rfl) (by omega) dK;obtain ⟨x3,h3⟩:=cW (R:=RZ RInt fitN) Tryz.underlying81 h hl hc 3 rfl 3 1 rfl (by kernel_rfl) (by omega) dK;obtain ⟨x4,h4⟩:=cW (R:=RSl 1 (RZ RInt fitN)) Tryz.underlying81 h hl hc 4 rfl 4 1 rfl (by kernel_rfl) (by omega) (iY Tryz.underlying58 (by kernel_rfl) (by omega) dK);obtain ⟨g1,g2⟩:=gD h4;exact ⟨⟨x0,x1,x2,x3,x4⟩,⟨h0.1,h1,h2.1,h3.1,g1⟩,⟨h3.2,g2⟩⟩
def FitPr (x:Int × Int):Prop:=fitN x.1/\fitN x.2
theorem zI:Opn enc w base spare held 77 2 (RZ RPr FitPr):=fun b o n cs y hl hc h=>by
 obtain ⟨ys,m,_,_,_,hyl,hfl⟩:=DataW.trod_array Tryz.underlying77 h;have hk:Tryz.prog.cellsOf 3=1:=by kernel_rfl
 have g:∀i,i<2->∃z:Int,w.cell? ⟨b,o+i,none⟩=some (.int .i64 z)/\fitN z:=fun i hi=>by
  have h1:=hfl i hi;rw [hk,Nat.mul_one,bD (show i<ys.length by omega)] at h1
  obtain ⟨z,hz⟩:=dK b (o+i) m _ _ (by simp;omega) (fun j hj=>by
   obtain rfl:j=0:=by omega
   rw [Nat.add_zero,List.getElem?_take,bA (by omega),List.getElem?_drop]
   exact hc (i+0) (by omega)) h1
  exact ⟨z,hz⟩
 obtain ⟨z0,h0,f0⟩:=g 0 (by omega);obtain ⟨z1,h1,f1⟩:=g 1 (by omega);exact ⟨(z0,z1),⟨h0,h1⟩,⟨f0,f1⟩⟩
theorem gC {α : Type} {k:Nat} {R:Rd α} {G : α -> Prop} {A:Option Addr} {c:Nat} {xs:List α} (h:Slc k (RZ R G) w A c xs):Slc k R w A c xs/\∀x∈xs,G x:=by
 refine ⟨⟨fun hx=>?_,h.le,h.big⟩,fun x hx=>?_⟩
 ·obtain ⟨b,o,e,hb,g⟩:=h.sl hx;exact ⟨b,o,e,hb,fun i x hi=>(g i x hi).1⟩
 ·obtain ⟨i,hi,rfl⟩:=List.mem_iff_getElem.1 hx;obtain ⟨b,o,e,hb,g⟩:=h.sl (by omega);exact (g i _ (bD hi)).2
theorem iT {α : Type} {k:Nat} {R:Rd α} {t e:TypeId} {n:Nat} {v:Value} {y:DataW H × List MemPlace} (ht:Tryz.prog.underlying t=some (.slice e)) (hk:Tryz.prog.cellsOf e=k) (hk0:0<k) (hR:Opn enc w base spare held e k R)
 (h:DataW.trod enc Tryz.prog w base spare held n t [v]=some y):∃A c xs,v = .slice A (List.length xs) c/\Slc k R w A c xs:=by
 obtain ⟨A,c,xs,e,hs⟩:=rU ht hk hk0 h hR;exact ⟨A,c,xs,by simpa using e,hs⟩
theorem rV {r:Reach} {b0:Nat} {v:Value} {d:DataW H} {p:List MemPlace} (hv:Value.okWide Tryz.prog w r b0 28 v) (h:DataW.Trod enc Tryz.prog w base spare held 28 v d p):
 ∃b bh,v = .agg (bdC b bh).toArray/\BdAt w b bh/\NmOk b/\FitB b:=by
 obtain ⟨cs,rfl,hcs⟩:=okWide_struct Tryz.underlying28 hv;have hc7:cs.size=7:=hcs.trans (by kernel_rfl);obtain ⟨fuel,hf⟩:=h;have hl:(Value.agg cs).cells.toList.length=7:=by simpa [Value.cells] using hc7
 have hg:∀i:Nat,(Value.agg cs).cells.toList[i]?=cs[i]?:=fun i=>by simp only [Value.cells];exact Array.getElem?_toList ..
 have F:=fun (j:Nat) (f:Field) hj=>lV (j:=j) (f:=f) Tryz.underlying28 (by kernel_rfl) hf hl hj
 obtain ⟨v0,m0,y0,e0,g0⟩:=F 0 _ rfl;obtain ⟨v1,m1,y1,e1,g1⟩:=F 1 _ rfl;obtain ⟨v2,m2,y2,e2,g2⟩:=F 2 _ rfl;obtain ⟨v3,m3,y3,e3,g3⟩:=F 3 _ rfl;obtain ⟨v4,m4,y4,e4,g4⟩:=F 4 _ rfl;obtain ⟨v5,m5,y5,e5,g5⟩:=F 5 _ rfl;obtain ⟨v6,m6,y6,e6,g6⟩:=F 6 _ rfl;clear F;rw [hg] at e0 e1 e2 e3 e4 e5 e6;obtain ⟨nm,q0,_,hn⟩:=DataW.trod_string Tryz.underlying9 g0;obtain rfl:v0 = .string nm:=by simpa using q0
 obtain ⟨ar,q5,_,_⟩:=DataW.trod_int (k:= .i64) Tryz.underlying3 g5;obtain rfl:v5 = .int .i64 ar:=by simpa using q5
 obtain ⟨A1,c1,rg,rfl,s1⟩:=iT Tryz.underlying22 (by kernel_rfl) (by omega) mY g1;obtain ⟨A2,c2,ol,rfl,s2⟩:=iT Tryz.underlying23 (by kernel_rfl) (by omega) zI g2;obtain ⟨A3,c3,ts,rfl,s3⟩:=iT Tryz.underlying24 (by kernel_rfl) (by omega) zE g3;obtain ⟨A4,c4,ls,rfl,s4⟩:=iT Tryz.underlying25 (by kernel_rfl) (by omega) zJ g4;obtain ⟨A5,c5,bs,rfl,s5⟩:=iT Tryz.underlying26 (by kernel_rfl) (by omega) zK g6;obtain ⟨s1,z1⟩:=gC (R:=RN) (G:=fun x=>x.size<=9223372036854775807) s1;obtain ⟨s2,z2⟩:=gC s2;obtain ⟨s3,z3⟩:=gC s3;obtain ⟨s4,z4⟩:=gC s4;obtain ⟨s5,z5⟩:=gC s5;refine ⟨⟨nm,rg,ol,ts,ls,ar,bs⟩,⟨A1,c1,A2,c2,A3,c3,A4,c4,A5,c5⟩,?_,⟨s1,s2,s3,s4,s5⟩,⟨by unfold maxLen at hn;simp only;omega,z1,fun x hx=>(z4 x hx).1,fun x hx=>(z5 x hx).nm⟩,⟨z3,fun x hx=>(z4 x hx).2,fun x hx=>(z5 x hx).st,fun x hx=>(z5 x hx).tm⟩⟩;congr 1
 apply Array.ext
 ·rw [hc7];rfl
 ·intro i h1 h2;have hi:i<7:=by omega
  rcases (show i=0\/i=1\/i=2\/i=3\/i=4\/i=5\/i=6 by omega) with rfl | rfl | rfl | rfl | rfl | rfl | rfl
  all_goals (apply Option.some.inj;rw [<- Array.getElem?_eq_getElem h1];first | (rw [e0];rfl) | (rw [e1];rfl) | (rw [e2];rfl) | (rw [e3];rfl) | (rw [e4];rfl) | (rw [e5];rfl) | (rw [e6];rfl))
theorem pQ {r:Reach} {b0:Nat} {v:Value} {d:DataW H} {p:List MemPlace} (hv:Value.okWide Tryz.prog w r b0 46 v) (h:DataW.Trod enc Tryz.prog w base spare held 46 v d p):
 ∃(q:Plc) (A:Option Addr) (c:Nat),v = .agg #[.int .i64 q.loc,.slice A q.proj.length c]/\Slc 2 RPj w A c q.proj/\∀x∈q.proj,fitJ x:=by
 obtain ⟨cs,rfl,hcs⟩:=okWide_struct Tryz.underlying46 hv;have hc2:cs.size=2:=hcs.trans (by kernel_rfl);obtain ⟨fuel,hf⟩:=h;have hl:(Value.agg cs).cells.toList.length=2:=by simpa [Value.cells] using hc2
 have hg:∀i:Nat,(Value.agg cs).cells.toList[i]?=cs[i]?:=fun i=>by simp only [Value.cells];exact Array.getElem?_toList ..
 have F:=fun (j:Nat) (f:Field) hj=>lV (j:=j) (f:=f) Tryz.underlying46 (by kernel_rfl) hf hl hj
 obtain ⟨v0,m0,y0,e0,g0⟩:=F 0 _ rfl;obtain ⟨v1,m1,y1,e1,g1⟩:=F 1 _ rfl;clear F;rw [hg] at e0 e1;obtain ⟨ar,q5,_,_⟩:=DataW.trod_int (k:= .i64) Tryz.underlying3 g0;obtain rfl:v0 = .int .i64 ar:=by simpa using q5
 obtain ⟨A1,c1,pj,rfl,s1⟩:=iT Tryz.underlying44 (by kernel_rfl) (by omega) wP g1;obtain ⟨s1,z1⟩:=gC s1;refine ⟨⟨ar,pj⟩,A1,c1,?_,s1,z1⟩;congr 1
 apply Array.ext
 ·rw [hc2];rfl
 ·intro i h1 h2;have hi:i<2:=by omega
  rcases (show i=0\/i=1 by omega) with rfl | rfl
  all_goals (apply Option.some.inj;rw [<- Array.getElem?_eq_getElem h1];first | (rw [e0];rfl) | (rw [e1];rfl))
end
end
end Go.Proofs.YtmknfbfppmkcfaaGreatDoor
