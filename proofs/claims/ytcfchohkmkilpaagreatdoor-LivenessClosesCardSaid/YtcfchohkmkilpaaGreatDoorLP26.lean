/-
  Parts of the proof: KO LU.
-/
import Derived.Test.YtcfchohkmkilpaaGreatDoorLP0
import Derived.Test.YtcfchohkmkilpaaGreatDoorLP21
import Derived.Test.YtcfchohkmkilpaaGreatDoorLP15
import Derived.JoinedOf
namespace Go.Proofs.YtcfchohkmkilpaaGreatDoor
set_option maxRecDepth 100000
set_option maxHeartbeats 16000000
section
open Go Go.ChangeShapes Go.WideShapes Go.ChangeAt Go.RowKit Go.Joins Go.Deep
section
variable {H:Type} (enc:TypeId × Value->H) (w:World) (base:Nat) (spare:Nat->Bool) (held:Bool)
def Opn {α : Type} (t:TypeId) (k:Nat) (R:Rd α):Prop:=∀(b o n:Nat) (cs:List Value) (y:DataW H × List MemPlace),cs.length=k->(∀j,j<k->w.cell? ⟨b,o+j,none⟩=cs[j]?)->DataW.trod enc Tryz.prog w base spare held n t cs=some y->∃z,R w w.heap.size b o z
end
section
variable {H:Type} {enc:TypeId × Value->H} {w:World} {base:Nat} {spare:Nat->Bool} {held:Bool}
def RNZ:Rd ByteArray:=fun w B b o x=>RN w B b o x/\x.size<=9223372036854775807
def RBool:Rd Bool:=fun w _ b o x=>w.cell? ⟨b,o,none⟩=some (.bool x)
theorem dY:Opn enc w base spare held 3 1 RInt:=fun b o n cs y hl hc h=>by
 obtain ⟨z,rfl,_,_⟩:=DataW.trod_int (k:= .i64) Tryz.underlying3 h;exact ⟨z,hc 0 (by omega)⟩
theorem xDF:Opn enc w base spare held 2 1 RInt:=fun b o n cs y hl hc h=>by
 obtain ⟨z,rfl,_,_⟩:=DataW.trod_int (k:= .i64) Tryz.underlying2 h;exact ⟨z,hc 0 (by omega)⟩
theorem rN:Opn enc w base spare held 4 1 RBool:=fun b o n cs y hl hc h=>by
 obtain ⟨z,rfl,_⟩:=DataW.trod_bool Tryz.underlying4 h;exact ⟨z,hc 0 (by omega)⟩
theorem qB:Opn enc w base spare held 9 1 RNZ:=fun b o n cs y hl hc h=>by
 obtain ⟨z,rfl,_,hz⟩:=DataW.trod_string Tryz.underlying9 h;exact ⟨z,hc 0 (by omega),by unfold maxLen at hz;omega⟩
theorem lN {α : Type} {R:Rd α} {t e:TypeId} {k:Nat} (ht:Tryz.prog.underlying t=some (.slice e)) (hk:Tryz.prog.cellsOf e=k) (hk0:0<k) (hR:Opn enc w base spare held e k R):Opn enc w base spare held t 1 (RSl k R):=fun b o n cs y hl hc h=>by
 obtain ⟨A,c,xs,rfl,hs⟩:=wH ht hk hk0 h hR;exact ⟨xs,A,c,hc 0 (by omega),hs.le,hs.big,hs.sl⟩
theorem dC {α : Type} {R:Rd α} {e:TypeId} {fs:Array Field} {n K b o:Nat} {cs:List Value} {y:DataW H × List MemPlace} (he:Tryz.prog.underlying e=some (.struct fs)) (h:DataW.trod enc Tryz.prog w base spare held n e cs=some y) (hl:cs.length=K)
 (hc:∀j,j<K->w.cell? ⟨b,o+j,none⟩=cs[j]?) (j:Nat) {f:Field} (hf:fs[j]?=some f) (off k:Nat) (ho:f.offset=off) (hk:Tryz.prog.cellsOf f.type=k) (hok:off+k<=K) (hR:Opn enc w base spare held f.type k R):∃z,R w w.heap.size b (o+off) z:=by
 obtain ⟨ys,m,_,_,_,hyl,hfl⟩:=DataW.trod_struct he h;have hjl:j<fs.size:=(Array.getElem?_eq_some_iff.1 hf).1;have h1:=hfl j f hf;rw [ho,hk,bD (show j<ys.length by omega)] at h1;refine hR b (o+off) m _ _ (by simp;omega) (fun i hi=>?_) h1;rw [List.getElem?_take,bA hi,List.getElem?_drop,Nat.add_assoc];exact hc (off+i) (by omega)
theorem xEX:Opn enc w base spare held 180 2 RPj:=fun b o n cs y hl hc h=>by
 obtain ⟨x0,h0⟩:=dC (R:=RInt) Tryz.underlying180 h hl hc 0 rfl 0 1 rfl (by kernel_rfl) (by omega) dY;obtain ⟨x1,h1⟩:=dC (R:=RInt) Tryz.underlying180 h hl hc 1 rfl 1 1 rfl (by kernel_rfl) (by omega) dY;exact ⟨⟨x0,x1⟩,h0,h1⟩
theorem rM:Opn enc w base spare held 51 2 RPl:=fun b o n cs y hl hc h=>by
 obtain ⟨x0,h0⟩:=dC (R:=RInt) Tryz.underlying51 h hl hc 0 rfl 0 1 rfl (by kernel_rfl) (by omega) dY;obtain ⟨x1,h1⟩:=dC (R:=RSl 2 RPj) Tryz.underlying51 h hl hc 1 rfl 1 1 rfl (by kernel_rfl) (by omega) (lN Tryz.underlying49 (by kernel_rfl) (by omega) xEX);exact ⟨⟨x0,x1⟩,h0,h1⟩
theorem xBM:Opn enc w base spare held 69 4 ROp:=fun b o n cs y hl hc h=>by
 obtain ⟨x0,h0⟩:=dC (R:=RInt) Tryz.underlying69 h hl hc 0 rfl 0 1 rfl (by kernel_rfl) (by omega) dY;obtain ⟨x1,h1⟩:=dC (R:=RPl) Tryz.underlying69 h hl hc 1 rfl 1 2 rfl (by kernel_rfl) (by omega) rM;obtain ⟨x2,h2⟩:=dC (R:=RInt) Tryz.underlying69 h hl hc 2 rfl 3 1 rfl (by kernel_rfl) (by omega) xDF;exact ⟨⟨x0,x1,x2⟩,h0,h1,h2⟩
theorem xEV:Opn enc w base spare held 71 7 RRv:=fun b o n cs y hl hc h=>by
 obtain ⟨x0,h0⟩:=dC (R:=RInt) Tryz.underlying71 h hl hc 0 rfl 0 1 rfl (by kernel_rfl) (by omega) dY;obtain ⟨x1,h1⟩:=dC (R:=RInt) Tryz.underlying71 h hl hc 1 rfl 1 1 rfl (by kernel_rfl) (by omega) dY;obtain ⟨x2,h2⟩:=dC (R:=RInt) Tryz.underlying71 h hl hc 2 rfl 2 1 rfl (by kernel_rfl) (by omega) dY;obtain ⟨x3,h3⟩:=dC (R:=RBool) Tryz.underlying71 h hl hc 3 rfl 3 1 rfl (by kernel_rfl) (by omega) rN;obtain ⟨x4,h4⟩:=dC (R:=RPl) Tryz.underlying71 h hl hc 4 rfl 4 2 rfl (by kernel_rfl) (by omega) rM;obtain ⟨x5,h5⟩:=dC (R:=RSl 4 ROp) Tryz.underlying71 h hl hc 5 rfl 6 1 rfl (by kernel_rfl) (by omega) (lN Tryz.underlying48 (by kernel_rfl) (by omega) xBM);exact ⟨⟨x0,x1,x2,x3,x4,x5⟩,h0,h1,h2,h3,h4,h5⟩
theorem xEU:Opn enc w base spare held 73 11 RSt:=fun b o n cs y hl hc h=>by
 obtain ⟨x0,h0⟩:=dC (R:=RInt) Tryz.underlying73 h hl hc 0 rfl 0 1 rfl (by kernel_rfl) (by omega) dY;obtain ⟨x1,h1⟩:=dC (R:=RPl) Tryz.underlying73 h hl hc 1 rfl 1 2 rfl (by kernel_rfl) (by omega) rM;obtain ⟨x2,h2⟩:=dC (R:=RRv) Tryz.underlying73 h hl hc 2 rfl 3 7 rfl (by kernel_rfl) (by omega) xEV;obtain ⟨x3,h3⟩:=dC (R:=RInt) Tryz.underlying73 h hl hc 3 rfl 10 1 rfl (by kernel_rfl) (by omega) dY;exact ⟨⟨x0,x1,x2,x3⟩,h0,h1,h2,h3⟩
def RTmZ:Rd Trm:=fun w B b o x=>RTm w B b o x/\x.name.size<=9223372036854775807
theorem xET:Opn enc w base spare held 53 6 RTmZ:=fun b o n cs y hl hc h=>by
 obtain ⟨x0,h0⟩:=dC (R:=RInt) Tryz.underlying53 h hl hc 0 rfl 0 1 rfl (by kernel_rfl) (by omega) dY;obtain ⟨x1,h1⟩:=dC (R:=RSl 1 RInt) Tryz.underlying53 h hl hc 1 rfl 1 1 rfl (by kernel_rfl) (by omega) (lN Tryz.underlying34 (by kernel_rfl) (by omega) dY);obtain ⟨x2,h2⟩:=dC (R:=RSl 4 ROp) Tryz.underlying53 h hl hc 2 rfl 2 1 rfl (by kernel_rfl) (by omega) (lN Tryz.underlying48 (by kernel_rfl) (by omega) xBM);obtain ⟨x3,h3⟩:=dC (R:=RPl) Tryz.underlying53 h hl hc 3 rfl 3 2 rfl (by kernel_rfl) (by omega) rM;obtain ⟨x4,h4⟩:=dC (R:=RNZ) Tryz.underlying53 h hl hc 4 rfl 5 1 rfl (by kernel_rfl) (by omega) qB;exact ⟨⟨x0,x1,x2,x3,x4⟩,⟨h0,h1,h2,h3,h4.1⟩,h4.2⟩
def RBkZ:Rd Blk:=fun w B b o x=>RBk w B b o x/\x.term.name.size<=9223372036854775807
theorem xEZ:Opn enc w base spare held 55 7 RBkZ:=fun b o n cs y hl hc h=>by
 obtain ⟨x0,h0⟩:=dC (R:=RSl 11 RSt) Tryz.underlying55 h hl hc 0 rfl 0 1 rfl (by kernel_rfl) (by omega) (lN Tryz.underlying47 (by kernel_rfl) (by omega) xEU);obtain ⟨x1,h1⟩:=dC (R:=RTmZ) Tryz.underlying55 h hl hc 1 rfl 1 6 rfl (by kernel_rfl) (by omega) xET;exact ⟨⟨x0,x1⟩,⟨h0,h1.1⟩,h1.2⟩
def RLcZ:Rd Lc:=fun w B b o x=>RLc w B b o x/\x.name.size<=9223372036854775807
theorem xEY:Opn enc w base spare held 67 2 RLcZ:=fun b o n cs y hl hc h=>by
 obtain ⟨x0,h0⟩:=dC (R:=RNZ) Tryz.underlying67 h hl hc 0 rfl 0 1 rfl (by kernel_rfl) (by omega) qB;obtain ⟨x1,h1⟩:=dC (R:=RInt) Tryz.underlying67 h hl hc 1 rfl 1 1 rfl (by kernel_rfl) (by omega) dY;exact ⟨⟨x0,x1⟩,⟨h0.1,h1⟩,h0.2⟩
theorem xES:Opn enc w base spare held 65 5 RTy:=fun b o n cs y hl hc h=>by
 obtain ⟨x0,h0⟩:=dC (R:=RInt) Tryz.underlying65 h hl hc 0 rfl 0 1 rfl (by kernel_rfl) (by omega) dY;obtain ⟨x1,h1⟩:=dC (R:=RBool) Tryz.underlying65 h hl hc 1 rfl 1 1 rfl (by kernel_rfl) (by omega) rN;obtain ⟨x2,h2⟩:=dC (R:=RInt) Tryz.underlying65 h hl hc 2 rfl 2 1 rfl (by kernel_rfl) (by omega) dY;obtain ⟨x3,h3⟩:=dC (R:=RInt) Tryz.underlying65 h hl hc 3 rfl 3 1 rfl (by kernel_rfl) (by omega) dY;obtain ⟨x4,h4⟩:=dC (R:=RSl 1 RInt) Tryz.underlying65 h hl hc 4 rfl 4 1 rfl (by kernel_rfl) (by omega) (lN Tryz.underlying34 (by kernel_rfl) (by omega) dY);exact ⟨⟨x0,x1,x2,x3,x4⟩,h0,h1,h2,h3,h4⟩
theorem xEW:Opn enc w base spare held 43 2 RPr:=fun b o n cs y hl hc h=>by
 obtain ⟨ys,m,_,_,_,hyl,hfl⟩:=DataW.trod_array Tryz.underlying43 h;have hk:Tryz.prog.cellsOf 3=1:=by kernel_rfl
 have g:∀i,i<2->∃z:Int,w.cell? ⟨b,o+i,none⟩=some (.int .i64 z):=fun i hi=>by
  have h1:=hfl i hi;rw [hk,Nat.mul_one,bD (show i<ys.length by omega)] at h1
  obtain ⟨z,hz⟩:=dY b (o+i) m _ _ (by simp;omega) (fun j hj=>by
   obtain rfl:j=0:=by omega
   rw [Nat.add_zero,List.getElem?_take,bA (by omega),List.getElem?_drop]
   exact hc (i+0) (by omega)) h1
  exact ⟨z,hz⟩
 obtain ⟨z0,h0⟩:=g 0 (by omega);obtain ⟨z1,h1⟩:=g 1 (by omega);exact ⟨(z0,z1),h0,h1⟩
theorem oN {α : Type} {k:Nat} {R:Rd α} {G : α -> Prop} {A:Option Addr} {c:Nat} {xs:List α} (h:Slc k (fun w B b o x=>R w B b o x/\G x) w A c xs):Slc k R w A c xs/\∀x∈xs,G x:=by
 refine ⟨⟨fun hx=>?_,h.le,h.big⟩,fun x hx=>?_⟩
 ·obtain ⟨b,o,e,hb,g⟩:=h.sl hx;exact ⟨b,o,e,hb,fun i x hi=>(g i x hi).1⟩
 ·obtain ⟨i,hi,rfl⟩:=List.mem_iff_getElem.1 hx;obtain ⟨b,o,e,hb,g⟩:=h.sl (by omega);exact (g i _ (bD hi)).2
theorem nE {α : Type} {k:Nat} {R:Rd α} {t e:TypeId} {n:Nat} {v:Value} {y:DataW H × List MemPlace} (ht:Tryz.prog.underlying t=some (.slice e)) (hk:Tryz.prog.cellsOf e=k) (hk0:0<k) (hR:Opn enc w base spare held e k R)
 (h:DataW.trod enc Tryz.prog w base spare held n t [v]=some y):∃A c xs,v = .slice A (List.length xs) c/\Slc k R w A c xs:=by
 obtain ⟨A,c,xs,e,hs⟩:=wH ht hk hk0 h hR;exact ⟨A,c,xs,by simpa using e,hs⟩
theorem wI {r:Reach} {b0:Nat} {v:Value} {d:DataW H} {p:List MemPlace} (hv:Value.okWide Tryz.prog w r b0 28 v) (h:DataW.Trod enc Tryz.prog w base spare held 28 v d p):
 ∃b bh,v = .agg (bdC b bh).toArray/\BdAt w b bh/\NmOk b:=by
 obtain ⟨cs,rfl,hcs⟩:=okWide_struct Tryz.underlying28 hv;have hc7:cs.size=7:=hcs.trans (by kernel_rfl);obtain ⟨fuel,hf⟩:=h;have hl:(Value.agg cs).cells.toList.length=7:=by simpa [Value.cells] using hc7
 have hg:∀i:Nat,(Value.agg cs).cells.toList[i]?=cs[i]?:=fun i=>by simp only [Value.cells];exact Array.getElem?_toList ..
 have F:=fun (j:Nat) (f:Field) hj=>xC (j:=j) (f:=f) Tryz.underlying28 (by kernel_rfl) hf hl hj
 obtain ⟨v0,m0,y0,e0,g0⟩:=F 0 _ rfl;obtain ⟨v1,m1,y1,e1,g1⟩:=F 1 _ rfl;obtain ⟨v2,m2,y2,e2,g2⟩:=F 2 _ rfl;obtain ⟨v3,m3,y3,e3,g3⟩:=F 3 _ rfl;obtain ⟨v4,m4,y4,e4,g4⟩:=F 4 _ rfl;obtain ⟨v5,m5,y5,e5,g5⟩:=F 5 _ rfl;obtain ⟨v6,m6,y6,e6,g6⟩:=F 6 _ rfl;clear F;rw [hg] at e0 e1 e2 e3 e4 e5 e6;obtain ⟨nm,q0,_,hn⟩:=DataW.trod_string Tryz.underlying9 g0;obtain rfl:v0 = .string nm:=by simpa using q0
 obtain ⟨ar,q5,_,_⟩:=DataW.trod_int (k:= .i64) Tryz.underlying3 g5;obtain rfl:v5 = .int .i64 ar:=by simpa using q5
 obtain ⟨A1,c1,rg,rfl,s1⟩:=nE Tryz.underlying22 (by kernel_rfl) (by omega) qB g1;obtain ⟨A2,c2,ol,rfl,s2⟩:=nE Tryz.underlying23 (by kernel_rfl) (by omega) xEW g2;obtain ⟨A3,c3,ts,rfl,s3⟩:=nE Tryz.underlying24 (by kernel_rfl) (by omega) xES g3;obtain ⟨A4,c4,ls,rfl,s4⟩:=nE Tryz.underlying25 (by kernel_rfl) (by omega) xEY g4;obtain ⟨A5,c5,bs,rfl,s5⟩:=nE Tryz.underlying26 (by kernel_rfl) (by omega) xEZ g6;obtain ⟨s1,z1⟩:=oN s1;obtain ⟨s4,z4⟩:=oN s4;obtain ⟨s5,z5⟩:=oN s5;refine ⟨⟨nm,rg,ol,ts,ls,ar,bs⟩,⟨A1,c1,A2,c2,A3,c3,A4,c4,A5,c5⟩,?_,⟨s1,s2,s3,s4,s5⟩,⟨by unfold maxLen at hn;simp only;omega,z1,z4,z5⟩⟩;congr 1
 apply Array.ext
 ·rw [hc7];rfl
 ·intro i h1 h2;have hi:i<7:=by omega
  rcases (show i=0\/i=1\/i=2\/i=3\/i=4\/i=5\/i=6 by omega) with rfl | rfl | rfl | rfl | rfl | rfl | rfl
  all_goals (apply Option.some.inj;rw [<- Array.getElem?_eq_getElem h1];first | (rw [e0];rfl) | (rw [e1];rfl) | (rw [e2];rfl) | (rw [e3];rfl) | (rw [e4];rfl) | (rw [e5];rfl) | (rw [e6];rfl))
theorem xAC {r:Reach} {b0:Nat} {v:Value} {d:DataW H} {p:List MemPlace} (hv:Value.okWide Tryz.prog w r b0 3 v) (h:DataW.Trod enc Tryz.prog w base spare held 3 v d p):∃x:Int,v = .int .i64 x/\ -9223372036854775808<=x/\x<=9223372036854775807:=by
 obtain ⟨x,rfl,-,-,hw⟩:=open_int Tryz.underlying3 hv h;refine ⟨x,rfl,?_⟩;simp [Lit.wf,IntKind.min,IntKind.max,IntKind.signed,IntKind.bits] at hw;omega
end
theorem xEF {w:World} (h:laidMetH Tryz.prog Rows.livenessUsesRow.laid w):TabsOk w:=by
 rw [MakeChecks.laidMetH_plain _ _ _ (by kernel_rfl)] at h
 exact ⟨lQ gUn gUnT Tryz.underlying208 rfl (by omega) (by omega) (l:=iD) h.tail,
  lQ gBi gBiT Tryz.underlying209 rfl (by omega) (by omega) (l:=gB) h.tail.tail⟩
end
section
open Go Go.RowKit
theorem cX {a b:Bool} (ha:a=true) (hb:b=true):(a && b)=true:=by rw [ha,hb];rfl
theorem tQ:(Rows.livenessUsesRow.wf (OpenSpec.ofChange Rows.livenessUsesSpec))=true:=by kernel_rfl
theorem tP:(laidOutB Tryz.prog)=true:=by kernel_rfl
theorem tO:(mapsRowed Tryz.prog)=true:=by kernel_rfl
theorem tN:(Tryz.f3.params.all (Tryz.prog.readableRec ·))=true:=by kernel_rfl
theorem tM:(namedTie Tryz.prog Rows.livenessUsesRow.named Rows.livenessUsesSpec.vars)=true:=by kernel_rfl
theorem tL:((Rows.livenessUsesRow.stops == []))=true:=by kernel_rfl
theorem tK:((Tryz.prog.stops == []))=true:=by kernel_rfl
theorem tJ:((Rows.livenessUsesRow.knobs == []))=true:=by kernel_rfl
theorem tI:((Tryz.prog.stopKnobs == []))=true:=by kernel_rfl
theorem tH:((Rows.livenessUsesRow.inPlace == Tryz.prog.inPlace 3))=true:=by kernel_rfl
theorem pR:((Rows.livenessUsesRow.unfollowed == Tryz.prog.unfollowed 3))=true:=by kernel_rfl
theorem pQ:((Rows.livenessUsesRow.recurses == Tryz.prog.recurses 3))=true:=by kernel_rfl
theorem pP:((Rows.livenessUsesRow.named == Tryz.prog.varsNamed 3))=true:=by kernel_rfl
theorem pO:((Rows.livenessUsesRow.maps == (Tryz.f3.params.toList ++ Rows.livenessUsesSpec.plain.varTypes Tryz.prog).any (Tryz.prog.mapsRec ·)))=true:=by kernel_rfl
theorem pN:((Rows.livenessUsesRow.ifaces == (Tryz.f3.params.toList ++ Rows.livenessUsesSpec.plain.varTypes Tryz.prog).any (Tryz.prog.ifacesRec ·)))=true:=by kernel_rfl
theorem pM:((Rows.livenessUsesRow.mapsOut == Tryz.prog.mapsAmong Tryz.f3.resultTypes.toList))=true:=by kernel_rfl
theorem pL:((Rows.livenessUsesRow.loops == (Tryz.f3.params.toList ++ Rows.livenessUsesSpec.plain.varTypes Tryz.prog).any (Tryz.prog.loopsFrom ·)))=true:=by kernel_rfl
theorem pK:((Rows.livenessUsesRow.wideKeys == (Tryz.f3.params.toList ++ Rows.livenessUsesSpec.plain.varTypes Tryz.prog ++ Tryz.f3.resultTypes.toList).any (Tryz.prog.wideKeysFrom ·)))=true:=by kernel_rfl
theorem pJ:(Rows.livenessUsesSpec.vars.all (Tryz.prog.varReadable ·))=true:=by kernel_rfl
theorem pI:(Tryz.f3.resultTypes.all (fun t=>Tryz.prog.readableRec t && decide (t<Tryz.prog.types.size)))=true:=by kernel_rfl
theorem pH:((Rows.livenessUsesRow.ifacesOut == Tryz.f3.resultTypes.toList.any (Tryz.prog.ifacesRec ·)))=true:=by kernel_rfl
theorem pG:((Rows.livenessUsesRow.loopsOut == Tryz.f3.resultTypes.toList.any (Tryz.prog.loopsFrom ·)))=true:=by kernel_rfl
theorem pF:((Rows.livenessUsesRow.plainKeys == Tryz.prog.plainKeys))=true:=by kernel_rfl
theorem pE:(Rows.livenessUsesRow.shortTexts.isNone)=true:=by kernel_rfl
theorem pD:(Tryz.prog.stopsHeard)=true:=by kernel_rfl
theorem pC:(Tryz.prog.mayEnter)=true:=by kernel_rfl
theorem pB:((Rows.livenessUsesRow.lifted == Tryz.prog.liftsFinal))=true:=by kernel_rfl
theorem pA:((Tryz.prog.make == some Rows.livenessUsesRow.make))=true:=by kernel_rfl
theorem oZ:((Rows.livenessUsesRow.kinds == (if Rows.livenessUsesRow.domain.isEmpty then [] else Tryz.f3.params.toList.map fun t=>match Tryz.prog.underlying t with | some (.int k)=>some k | _=>none)))=true:=by kernel_rfl
theorem oY:((Rows.livenessUsesRow.pinned == Rows.livenessUsesRow.pinnedBy))=true:=by kernel_rfl
theorem oX:((Rows.livenessUsesRow.veiled == (Tryz.f3.params.toList ++ Rows.livenessUsesSpec.plain.varTypes Tryz.prog ++ Tryz.f3.resultTypes.toList).any (Tryz.prog.veiledRec ·)))=true:=by kernel_rfl
theorem oW:(Rows.livenessUsesRow.veiledFits Tryz.prog Tryz.f3.params.toList (Tryz.f3.params.toList ++ Rows.livenessUsesSpec.plain.varTypes Tryz.prog ++ Tryz.f3.resultTypes.toList))=true:=by kernel_rfl
theorem jS:joinedFacts Tryz.prog 3 Tryz.f3 Rows.livenessUsesSpec Rows.livenessUsesRow=true:=(cX (cX (cX (cX (cX (cX (cX (cX (cX (cX (cX (cX (cX (cX (cX (cX (cX (cX (cX (cX (cX (cX (cX (cX (cX (cX (cX (cX (cX (cX (cX tQ tP) tO) tN) tM) tL) tK) tJ) tI) tH) pR) pQ) pP) pO) pN) pM) pL) pK) pJ) pI) pH) pG) pF) pE) pD) pC) pB) pA) oZ) oY) oX) oW)
end
end Go.Proofs.YtcfchohkmkilpaaGreatDoor
