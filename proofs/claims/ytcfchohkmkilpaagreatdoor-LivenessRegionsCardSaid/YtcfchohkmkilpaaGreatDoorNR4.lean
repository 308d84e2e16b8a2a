/-
  LivenessRegions: for every body the law answers true, and the argument reads as it did; the card of the row. Condition: the four listed variables hold at the start what the text of the program lays (the given tie; one is a table of the library, pinned by its name). (part 4)
-/
import Derived.Test.YtcfchohkmkilpaaGreatDoorNR3
namespace Go.Proofs.YtcfchohkmkilpaaGreatDoor
set_option maxRecDepth 100000
set_option maxHeartbeats 16000000
section
open Go Go.RowKit
attribute [local irreducible] Calls
theorem xMA (d:Nat) (x y:Int × Int) (w:World):(Op.equalIn (d+1+1) 43 (.agg #[.int .i64 x.1,.int .i64 x.2]) (.agg #[.int .i64 y.1,.int .i64 y.2])).run Tryz.prog w = .ok (decide (x=y)) w:=by
 have u3:=Tryz.underlying3;have a3:=Tryz.isAgg3;have z3:=Tryz.sizeOf3;have u:=Tryz.underlying43;obtain ⟨x1,x2⟩:=x;obtain ⟨a,b⟩:=y;have e1:=fun p q=>run_equalIn_int (P:=Tryz.prog) w d 3 .i64 .i64 p q u3
 rw [Op.equalIn];simp only [Sem.run_bind,run_underlying u,Result.andThen_ok,z3,Std.Legacy.Range.forIn_eq_forIn_range',Std.Legacy.Range.size];go_simp;generalize Op.equalIn (d+1) 3=f at *;simp [List.range',go_sem,e1];by_cases h1:x1=a <;> by_cases h2:x2=b <;> simp [h1,h2]
theorem neqPr (x y:Int × Int) (w:World):Sem.run Tryz.prog (binOp .neq 43 (.agg #[.int .i64 x.1,.int .i64 x.2]) (.agg #[.int .i64 y.1,.int .i64 y.2])) w = .ok (.bool (!decide (x=y))) w:=by
 rw [run_neq_struct,show (10000:Nat)=9998+1+1 from rfl,xMA];simp
theorem pr_at {w wr:World} {A:Option Addr} {c:Nat} {s:List (Int × Int)} (h:Slc 2 RPr w A c s) (hb:Below w.heap.size w wr) {k:Nat} (hk:k<s.length):∃g o,A=some ⟨g,o,none⟩/\wr.cell? ⟨g,o+k * 2,none⟩=some (.int .i64 s[k].1)/\wr.cell? ⟨g,o+k * 2+1,none⟩=some (.int .i64 s[k].2):=by
 obtain ⟨g,o,hA,_,hx⟩:=(h.keep RPr.keeps hb).sl.at_ hk;exact ⟨g,o,hA,hx.1,hx.2⟩
theorem xMQ (A B:Option Addr) (c d:Nat) (s:List (Int × Int)) (w:World) (h1:Slc 2 RPr w A c s) (h2:Slc 2 RPr w B d s):
 Calls Tryz.prog 20 #[.slice A s.length c,.slice B s.length d] w fun e w'=>e = .returned (.bool true)/\Below w.heap.size w w':=by
 have H1:=aF h1;have H2:=aF h2;have n1:=h1.le;have n2:=h1.big;have n3:=h2.le;have n4:=h2.big;clear h1 h2;go_enter Tryz.func20,Tryz.ntmps20
 go_wp2_with fail
 go_loopw [13] (fun i wr=>∃k:Nat,i = .int .i64 k/\k<=s.length/\Hid (Below w.heap.size w wr)) (fun i _=>s.length - (intOf i).toNat)
 case atStart=>exact ⟨0,rfl,by omega,aF (aX _ _)⟩
 case round=>
  obtain ⟨k,rfl,hk,HB⟩:=hrel;by_cases hlt:k<s.length
  case pos=>
   obtain ⟨g1,o1,rfl,x0,x1⟩:=pr_at H1.out HB.out hlt;obtain ⟨g2,o2,rfl,y0,y1⟩:=pr_at H2.out HB.out hlt;have hne:=neqPr s[k] s[k];rw [decide_eq_true rfl] at hne;generalize s[k].1=p at *;generalize s[k].2=q at *;go_wp2_with fail
   go_quiet (fail)
   go_wp2_with fail
   go_roundw
   case rel=>exact ⟨k+1,by go_num,by omega,aF (aG HB.out _)⟩
   case measure=>simp [intOf];omega
  case neg=>
   go_wp2_with fail
   go_ret;exact ⟨rfl,HB.out⟩
end
section
open Go Go.ChangeShapes Go.WideShapes Go.ChangeAt Go.RowKit Go.Joins Go.Deep
variable {H:Type} (enc:TypeId × Value->H) (w:World) (base:Nat) (spare:Nat->Bool) (held:Bool)
def Opn {α : Type} (t:TypeId) (k:Nat) (R:Rd α):Prop:=∀(b o n:Nat) (cs:List Value) (y:DataW H × List MemPlace),cs.length=k->(∀j,j<k->w.cell? ⟨b,o+j,none⟩=cs[j]?)->DataW.trod enc Tryz.prog w base spare held n t cs=some y->∃z,R w w.heap.size b o z
end
section
open Go Go.ChangeShapes Go.WideShapes Go.ChangeAt Go.RowKit Go.Joins Go.Deep
variable {H:Type} {enc:TypeId × Value->H} {w:World} {base:Nat} {spare:Nat->Bool} {held:Bool}
def RNZ:Rd ByteArray:=fun w B b o x=>RN w B b o x/\x.size<=9223372036854775807
def RBool:Rd Bool:=fun w _ b o x=>w.cell? ⟨b,o,none⟩=some (.bool x)
theorem dY:Opn enc w base spare held 3 1 RInt:=fun b o n cs y hl hc h=>by
 obtain ⟨z,rfl,_,_⟩:=DataW.trod_int (k:= .i64) Tryz.underlying3 h;exact ⟨z,hc 0 (by omega)⟩
theorem xDF:Opn enc w base spare held 2 1 RInt:=fun b o n cs y hl hc h=>by
 obtain ⟨z,rfl,_,_⟩:=DataW.trod_int (k:= .i64) Tryz.underlying2 h;exact ⟨z,hc 0 (by omega)⟩
theorem rN:Opn enc w base spare held 4 1 RBool:=fun b o n cs y hl hc h=>by
 obtain ⟨z,rfl,_⟩:=DataW.trod_bool Tryz.underlying4 h;exact ⟨z,hc 0 (by omega)⟩
theorem qB:Opn enc w base spare held 9 1 RNZ:=fun b o n cs y hl hc h=>by
 obtain ⟨z,rfl,_,hz⟩:=DataW.trod_string Tryz.underlying9 h;exact ⟨z,hc 0 (by omega),by unfold maxLen at hz;omega⟩
theorem lN {α : Type} {R:Rd α} {t e:TypeId} {k:Nat} (ht:Tryz.prog.underlying t=some (.slice e)) (hk:Tryz.prog.cellsOf e=k) (hk0:0<k) (hR:Opn enc w base spare held e k R):Opn enc w base spare held t 1 (RSl k R):=fun b o n cs y hl hc h=>by
 obtain ⟨A,c,xs,rfl,hs⟩:=wH ht hk hk0 h hR;exact ⟨xs,A,c,hc 0 (by omega),hs.le,hs.big,hs.sl⟩
theorem dC {α : Type} {R:Rd α} {e:TypeId} {fs:Array Field} {n K b o:Nat} {cs:List Value} {y:DataW H × List MemPlace} (he:Tryz.prog.underlying e=some (.struct fs)) (h:DataW.trod enc Tryz.prog w base spare held n e cs=some y) (hl:cs.length=K)
 (hc:∀j,j<K->w.cell? ⟨b,o+j,none⟩=cs[j]?) (j:Nat) {f:Field} (hf:fs[j]?=some f) (off k:Nat) (ho:f.offset=off) (hk:Tryz.prog.cellsOf f.type=k) (hok:off+k<=K) (hR:Opn enc w base spare held f.type k R):∃z,R w w.heap.size b (o+off) z:=by
 obtain ⟨ys,m,_,_,_,hyl,hfl⟩:=DataW.trod_struct he h;have hjl:j<fs.size:=(Array.getElem?_eq_some_iff.1 hf).1;have h1:=hfl j f hf;rw [ho,hk,bD (show j<ys.length by omega)] at h1;refine hR b (o+off) m _ _ (by simp;omega) (fun i hi=>?_) h1;rw [List.getElem?_take,bA hi,List.getElem?_drop,Nat.add_assoc];exact hc (off+i) (by omega)
theorem xEX:Opn enc w base spare held 180 2 RPj:=fun b o n cs y hl hc h=>by
 obtain ⟨x0,h0⟩:=dC (R:=RInt) Tryz.underlying180 h hl hc 0 rfl 0 1 rfl (by kernel_rfl) (by omega) dY;obtain ⟨x1,h1⟩:=dC (R:=RInt) Tryz.underlying180 h hl hc 1 rfl 1 1 rfl (by kernel_rfl) (by omega) dY;exact ⟨⟨x0,x1⟩,h0,h1⟩
theorem rM:Opn enc w base spare held 51 2 RPl:=fun b o n cs y hl hc h=>by
 obtain ⟨x0,h0⟩:=dC (R:=RInt) Tryz.underlying51 h hl hc 0 rfl 0 1 rfl (by kernel_rfl) (by omega) dY;obtain ⟨x1,h1⟩:=dC (R:=RSl 2 RPj) Tryz.underlying51 h hl hc 1 rfl 1 1 rfl (by kernel_rfl) (by omega) (lN Tryz.underlying49 (by kernel_rfl) (by omega) xEX);exact ⟨⟨x0,x1⟩,h0,h1⟩
theorem xBM:Opn enc w base spare held 69 4 ROp:=fun b o n cs y hl hc h=>by
 obtain ⟨x0,h0⟩:=dC (R:=RInt) Tryz.underlying69 h hl hc 0 rfl 0 1 rfl (by kernel_rfl) (by omega) dY;obtain ⟨x1,h1⟩:=dC (R:=RPl) Tryz.underlying69 h hl hc 1 rfl 1 2 rfl (by kernel_rfl) (by omega) rM;obtain ⟨x2,h2⟩:=dC (R:=RInt) Tryz.underlying69 h hl hc 2 rfl 3 1 rfl (by kernel_rfl) (by omega) xDF;exact ⟨⟨x0,x1,x2⟩,h0,h1,h2⟩
theorem xEV:Opn enc w base spare held 71 7 RRv:=fun b o n cs y hl hc h=>by
 obtain ⟨x0,h0⟩:=dC (R:=RInt) Tryz.underlying71 h hl hc 0 rfl 0 1 rfl (by kernel_rfl) (by omega) dY;obtain ⟨x1,h1⟩:=dC (R:=RInt) Tryz.underlying71 h hl hc 1 rfl 1 1 rfl (by kernel_rfl) (by omega) dY;obtain ⟨x2,h2⟩:=dC (R:=RInt) Tryz.underlying71 h hl hc 2 rfl 2 1 rfl (by kernel_rfl) (by omega) dY;obtain ⟨x3,h3⟩:=dC (R:=RBool) Tryz.underlying71 h hl hc 3 rfl 3 1 rfl (by kernel_rfl) (by omega) rN;obtain ⟨x4,h4⟩:=dC (R:=RPl) Tryz.underlying71 h hl hc 4 rfl 4 2 rfl (by kernel_rfl) (by omega) rM;obtain ⟨x5,h5⟩:=dC (R:=RSl 4 ROp) Tryz.underlying71 h hl hc 5 rfl 6 1 rfl (by kernel_rfl) (by omega) (lN Tryz.underlying48 (by kernel_rfl) (by omega) xBM);exact ⟨⟨x0,x1,x2,x3,x4,x5⟩,h0,h1,h2,h3,h4,h5⟩
theorem xEU:Opn enc w base spare held 73 11 RSt:=fun b o n cs y hl hc h=>by
 obtain ⟨x0,h0⟩:=dC (R:=RInt) Tryz.underlying73 h hl hc 0 rfl 0 1 rfl (by kernel_rfl) (by omega) dY;obtain ⟨x1,h1⟩:=dC (R:=RPl) Tryz.underlying73 h hl hc 1 rfl 1 2 rfl (by kernel_rfl) (by omega) rM;obtain ⟨x2,h2⟩:=dC (R:=RRv) Tryz.underlying73 h hl hc 2 rfl 3 7 rfl (by kernel_rfl) (by omega) xEV;obtain ⟨x3,h3⟩:=dC (R:=RInt) Tryz.underlying73 h hl hc 3 rfl 10 1 rfl (by kernel_rfl) (by omega) dY;exact ⟨⟨x0,x1,x2,x3⟩,h0,h1,h2,h3⟩
def RTmZ:Rd Trm:=fun w B b o x=>RTm w B b o x/\x.name.size<=9223372036854775807
theorem xET:Opn enc w base spare held 53 6 RTmZ:=fun b o n cs y hl hc h=>by
 obtain ⟨x0,h0⟩:=dC (R:=RInt) Tryz.underlying53 h hl hc 0 rfl 0 1 rfl (by kernel_rfl) (by omega) dY;obtain ⟨x1,h1⟩:=dC (R:=RSl 1 RInt) Tryz.underlying53 h hl hc 1 rfl 1 1 rfl (by kernel_rfl) (by omega) (lN Tryz.underlying34 (by kernel_rfl) (by omega) dY);obtain ⟨x2,h2⟩:=dC (R:=RSl 4 ROp) Tryz.underlying53 h hl hc 2 rfl 2 1 rfl (by kernel_rfl) (by omega) (lN Tryz.underlying48 (by kernel_rfl) (by omega) xBM);obtain ⟨x3,h3⟩:=dC (R:=RPl) Tryz.underlying53 h hl hc 3 rfl 3 2 rfl (by kernel_rfl) (by omega) rM;obtain ⟨x4,h4⟩:=dC (R:=RNZ) Tryz.underlying53 h hl hc 4 rfl 5 1 rfl (by kernel_rfl) (by omega) qB;exact ⟨⟨x0,x1,x2,x3,x4⟩,⟨h0,h1,h2,h3,h4.1⟩,h4.2⟩
def RBkZ:Rd Blk:=fun w B b o x=>RBk w B b o x/\x.term.name.size<=9223372036854775807
theorem xEZ:Opn enc w base spare held 55 7 RBkZ:=fun b o n cs y hl hc h=>by
 obtain ⟨x0,h0⟩:=dC (R:=RSl 11 RSt) Tryz.underlying55 h hl hc 0 rfl 0 1 rfl (by kernel_rfl) (by omega) (lN Tryz.underlying47 (by kernel_rfl) (by omega) xEU);obtain ⟨x1,h1⟩:=dC (R:=RTmZ) Tryz.underlying55 h hl hc 1 rfl 1 6 rfl (by kernel_rfl) (by omega) xET;exact ⟨⟨x0,x1⟩,⟨h0,h1.1⟩,h1.2⟩
def RLcZ:Rd Lc:=fun w B b o x=>RLc w B b o x/\x.name.size<=9223372036854775807
theorem xEY:Opn enc w base spare held 67 2 RLcZ:=fun b o n cs y hl hc h=>by
 obtain ⟨x0,h0⟩:=dC (R:=RNZ) Tryz.underlying67 h hl hc 0 rfl 0 1 rfl (by kernel_rfl) (by omega) qB;obtain ⟨x1,h1⟩:=dC (R:=RInt) Tryz.underlying67 h hl hc 1 rfl 1 1 rfl (by kernel_rfl) (by omega) dY;exact ⟨⟨x0,x1⟩,⟨h0.1,h1⟩,h0.2⟩
theorem xES:Opn enc w base spare held 65 5 RTy:=fun b o n cs y hl hc h=>by
 obtain ⟨x0,h0⟩:=dC (R:=RInt) Tryz.underlying65 h hl hc 0 rfl 0 1 rfl (by kernel_rfl) (by omega) dY;obtain ⟨x1,h1⟩:=dC (R:=RBool) Tryz.underlying65 h hl hc 1 rfl 1 1 rfl (by kernel_rfl) (by omega) rN;obtain ⟨x2,h2⟩:=dC (R:=RInt) Tryz.underlying65 h hl hc 2 rfl 2 1 rfl (by kernel_rfl) (by omega) dY;obtain ⟨x3,h3⟩:=dC (R:=RInt) Tryz.underlying65 h hl hc 3 rfl 3 1 rfl (by kernel_rfl) (by omega) dY;obtain ⟨x4,h4⟩:=dC (R:=RSl 1 RInt) Tryz.underlying65 h hl hc 4 rfl 4 1 rfl (by kernel_rfl) (by omega) (lN Tryz.underlying34 (by kernel_rfl) (by omega) dY);exact ⟨⟨x0,x1,x2,x3,x4⟩,h0,h1,h2,h3,h4⟩
theorem xEW:Opn enc w base spare held 43 2 RPr:=fun b o n cs y hl hc h=>by
 obtain ⟨ys,m,_,_,_,hyl,hfl⟩:=DataW.trod_array Tryz.underlying43 h;have hk:Tryz.prog.cellsOf 3=1:=by kernel_rfl
 have g:∀i,i<2->∃z:Int,w.cell? ⟨b,o+i,none⟩=some (.int .i64 z):=fun i hi=>by
  have h1:=hfl i hi;rw [hk,Nat.mul_one,bD (show i<ys.length by omega)] at h1
  obtain ⟨z,hz⟩:=dY b (o+i) m _ _ (by simp;omega) (fun j hj=>by
   obtain rfl:j=0:=by omega
   rw [Nat.add_zero,List.getElem?_take,bA (by omega),List.getElem?_drop]
   exact hc (i+0) (by omega)) h1
  exact ⟨z,hz⟩
 obtain ⟨z0,h0⟩:=g 0 (by omega);obtain ⟨z1,h1⟩:=g 1 (by omega);exact ⟨(z0,z1),h0,h1⟩
theorem oN {α : Type} {k:Nat} {R:Rd α} {G : α -> Prop} {A:Option Addr} {c:Nat} {xs:List α} (h:Slc k (fun w B b o x=>R w B b o x/\G x) w A c xs):Slc k R w A c xs/\∀x∈xs,G x:=by
 refine ⟨⟨fun hx=>?_,h.le,h.big⟩,fun x hx=>?_⟩
 ·obtain ⟨b,o,e,hb,g⟩:=h.sl hx;exact ⟨b,o,e,hb,fun i x hi=>(g i x hi).1⟩
 ·obtain ⟨i,hi,rfl⟩:=List.mem_iff_getElem.1 hx;obtain ⟨b,o,e,hb,g⟩:=h.sl (by omega);exact (g i _ (bD hi)).2
theorem nE {α : Type} {k:Nat} {R:Rd α} {t e:TypeId} {n:Nat} {v:Value} {y:DataW H × List MemPlace} (ht:Tryz.prog.underlying t=some (.slice e)) (hk:Tryz.prog.cellsOf e=k) (hk0:0<k) (hR:Opn enc w base spare held e k R)
 (h:DataW.trod enc Tryz.prog w base spare held n t [v]=some y):∃A c xs,v = .slice A (List.length xs) c/\Slc k R w A c xs:=by
 obtain ⟨A,c,xs,e,hs⟩:=wH ht hk hk0 h hR;exact ⟨A,c,xs,by simpa using e,hs⟩
theorem wI {r:Reach} {b0:Nat} {v:Value} {d:DataW H} {p:List MemPlace} (hv:Value.okWide Tryz.prog w r b0 28 v) (h:DataW.Trod enc Tryz.prog w base spare held 28 v d p):
 ∃b bh,v = .agg (bdC b bh).toArray/\BdAt w b bh/\NmOk b:=by
 obtain ⟨cs,rfl,hcs⟩:=okWide_struct Tryz.underlying28 hv;have hc7:cs.size=7:=hcs.trans (by kernel_rfl);obtain ⟨fuel,hf⟩:=h;have hl:(Value.agg cs).cells.toList.length=7:=by simpa [Value.cells] using hc7
 have hg:∀i:Nat,(Value.agg cs).cells.toList[i]?=cs[i]?:=fun i=>by simp only [Value.cells];exact Array.getElem?_toList ..
 have F:=fun (j:Nat) (f:Field) hj=>xC (j:=j) (f:=f) Tryz.underlying28 (by kernel_rfl) hf hl hj
 obtain ⟨v0,m0,y0,e0,g0⟩:=F 0 _ rfl;obtain ⟨v1,m1,y1,e1,g1⟩:=F 1 _ rfl;obtain ⟨v2,m2,y2,e2,g2⟩:=F 2 _ rfl;obtain ⟨v3,m3,y3,e3,g3⟩:=F 3 _ rfl;obtain ⟨v4,m4,y4,e4,g4⟩:=F 4 _ rfl;obtain ⟨v5,m5,y5,e5,g5⟩:=F 5 _ rfl;obtain ⟨v6,m6,y6,e6,g6⟩:=F 6 _ rfl;clear F;rw [hg] at e0 e1 e2 e3 e4 e5 e6;obtain ⟨nm,q0,_,hn⟩:=DataW.trod_string Tryz.underlying9 g0;obtain rfl:v0 = .string nm:=by simpa using q0
 obtain ⟨ar,q5,_,_⟩:=DataW.trod_int (k:= .i64) Tryz.underlying3 g5;obtain rfl:v5 = .int .i64 ar:=by simpa using q5
 obtain ⟨A1,c1,rg,rfl,s1⟩:=nE Tryz.underlying22 (by kernel_rfl) (by omega) qB g1;obtain ⟨A2,c2,ol,rfl,s2⟩:=nE Tryz.underlying23 (by kernel_rfl) (by omega) xEW g2;obtain ⟨A3,c3,ts,rfl,s3⟩:=nE Tryz.underlying24 (by kernel_rfl) (by omega) xES g3;obtain ⟨A4,c4,ls,rfl,s4⟩:=nE Tryz.underlying25 (by kernel_rfl) (by omega) xEY g4;obtain ⟨A5,c5,bs,rfl,s5⟩:=nE Tryz.underlying26 (by kernel_rfl) (by omega) xEZ g6;obtain ⟨s1,z1⟩:=oN s1;obtain ⟨s4,z4⟩:=oN s4;obtain ⟨s5,z5⟩:=oN s5;refine ⟨⟨nm,rg,ol,ts,ls,ar,bs⟩,⟨A1,c1,A2,c2,A3,c3,A4,c4,A5,c5⟩,?_,⟨s1,s2,s3,s4,s5⟩,⟨by unfold maxLen at hn;simp only;omega,z1,z4,z5⟩⟩;congr 1
 apply Array.ext
 ·rw [hc7];rfl
 ·intro i h1 h2;have hi:i<7:=by omega
  rcases (show i=0\/i=1\/i=2\/i=3\/i=4\/i=5\/i=6 by omega) with rfl | rfl | rfl | rfl | rfl | rfl | rfl
  all_goals (apply Option.some.inj;rw [<- Array.getElem?_eq_getElem h1];first | (rw [e0];rfl) | (rw [e1];rfl) | (rw [e2];rfl) | (rw [e3];rfl) | (rw [e4];rfl) | (rw [e5];rfl) | (rw [e6];rfl))
end
section
open Go Go.ChangeShapes Go.WideShapes Go.ChangeAt Go.RowKit Go.Joins Go.Deep
theorem xEF {w:World} (h:laidMetH Tryz.prog Rows.livenessUsesRow.laid w):TabsOk w:=by
 rw [MakeChecks.laidMetH_plain _ _ _ (by kernel_rfl)] at h
 exact ⟨lQ gUn gUnT Tryz.underlying208 rfl (by omega) (by omega) (l:=iD) h.tail,
  lQ gBi gBiT Tryz.underlying209 rfl (by omega) (by omega) (l:=gB) h.tail.tail⟩
end
section
open Go Go.RowKit
theorem xIM {a b:Bool} (ha:a=true) (hb:b=true):(a && b)=true:=by rw [ha,hb];rfl
theorem xKM:(Rows.livenessRegionsRow.wf (OpenSpec.ofChange Rows.livenessRegionsSpec))=true:=by kernel_rfl
theorem xKL:(laidOutB Tryz.prog)=true:=by kernel_rfl
theorem xKK:(mapsRowed Tryz.prog)=true:=by kernel_rfl
theorem xKJ:(Tryz.f4.params.all (Tryz.prog.readableRec ·))=true:=by kernel_rfl
theorem xKI:(namedTie Tryz.prog Rows.livenessRegionsRow.named Rows.livenessRegionsSpec.vars)=true:=by kernel_rfl
theorem xKH:((Rows.livenessRegionsRow.stops == []))=true:=by kernel_rfl
theorem xKG:((Tryz.prog.stops == []))=true:=by kernel_rfl
theorem xKF:((Rows.livenessRegionsRow.knobs == []))=true:=by kernel_rfl
theorem xKE:((Tryz.prog.stopKnobs == []))=true:=by kernel_rfl
theorem xKD:((Rows.livenessRegionsRow.inPlace == Tryz.prog.inPlace 4))=true:=by kernel_rfl
theorem xJZ:((Rows.livenessRegionsRow.unfollowed == Tryz.prog.unfollowed 4))=true:=by kernel_rfl
theorem xJY:((Rows.livenessRegionsRow.recurses == Tryz.prog.recurses 4))=true:=by kernel_rfl
theorem xJX:((Rows.livenessRegionsRow.named == Tryz.prog.varsNamed 4))=true:=by kernel_rfl
theorem xJW:((Rows.livenessRegionsRow.maps == (Tryz.f4.params.toList ++ Rows.livenessRegionsSpec.plain.varTypes Tryz.prog).any (Tryz.prog.mapsRec ·)))=true:=by kernel_rfl
theorem xJV:((Rows.livenessRegionsRow.ifaces == (Tryz.f4.params.toList ++ Rows.livenessRegionsSpec.plain.varTypes Tryz.prog).any (Tryz.prog.ifacesRec ·)))=true:=by kernel_rfl
theorem xJU:((Rows.livenessRegionsRow.mapsOut == Tryz.prog.mapsAmong Tryz.f4.resultTypes.toList))=true:=by kernel_rfl
theorem xJT:((Rows.livenessRegionsRow.loops == (Tryz.f4.params.toList ++ Rows.livenessRegionsSpec.plain.varTypes Tryz.prog).any (Tryz.prog.loopsFrom ·)))=true:=by kernel_rfl
theorem xJS:((Rows.livenessRegionsRow.wideKeys == (Tryz.f4.params.toList ++ Rows.livenessRegionsSpec.plain.varTypes Tryz.prog ++ Tryz.f4.resultTypes.toList).any (Tryz.prog.wideKeysFrom ·)))=true:=by kernel_rfl
theorem xJR:(Rows.livenessRegionsSpec.vars.all (Tryz.prog.varReadable ·))=true:=by kernel_rfl
theorem xJQ:(Tryz.f4.resultTypes.all (fun t=>Tryz.prog.readableRec t && decide (t<Tryz.prog.types.size)))=true:=by kernel_rfl
theorem xJP:((Rows.livenessRegionsRow.ifacesOut == Tryz.f4.resultTypes.toList.any (Tryz.prog.ifacesRec ·)))=true:=by kernel_rfl
theorem xJO:((Rows.livenessRegionsRow.loopsOut == Tryz.f4.resultTypes.toList.any (Tryz.prog.loopsFrom ·)))=true:=by kernel_rfl
theorem xJN:((Rows.livenessRegionsRow.plainKeys == Tryz.prog.plainKeys))=true:=by kernel_rfl
theorem xJM:(Rows.livenessRegionsRow.shortTexts.isNone)=true:=by kernel_rfl
theorem xJL:(Tryz.prog.stopsHeard)=true:=by kernel_rfl
theorem xJK:(Tryz.prog.mayEnter)=true:=by kernel_rfl
theorem xJJ:((Rows.livenessRegionsRow.lifted == Tryz.prog.liftsFinal))=true:=by kernel_rfl
theorem xJI:((Tryz.prog.make == some Rows.livenessRegionsRow.make))=true:=by kernel_rfl
theorem xJH:((Rows.livenessRegionsRow.kinds == (if Rows.livenessRegionsRow.domain.isEmpty then [] else Tryz.f4.params.toList.map fun t=>match Tryz.prog.underlying t with | some (.int k)=>some k | _=>none)))=true:=by kernel_rfl
theorem xJG:((Rows.livenessRegionsRow.pinned == Rows.livenessRegionsRow.pinnedBy))=true:=by kernel_rfl
theorem xJF:((Rows.livenessRegionsRow.veiled == (Tryz.f4.params.toList ++ Rows.livenessRegionsSpec.plain.varTypes Tryz.prog ++ Tryz.f4.resultTypes.toList).any (Tryz.prog.veiledRec ·)))=true:=by kernel_rfl
theorem xJE:(Rows.livenessRegionsRow.veiledFits Tryz.prog Tryz.f4.params.toList (Tryz.f4.params.toList ++ Rows.livenessRegionsSpec.plain.varTypes Tryz.prog ++ Tryz.f4.resultTypes.toList))=true:=by kernel_rfl
theorem xIQ:joinedFacts Tryz.prog 4 Tryz.f4 Rows.livenessRegionsSpec Rows.livenessRegionsRow=true:=(xIM (xIM (xIM (xIM (xIM (xIM (xIM (xIM (xIM (xIM (xIM (xIM (xIM (xIM (xIM (xIM (xIM (xIM (xIM (xIM (xIM (xIM (xIM (xIM (xIM (xIM (xIM (xIM (xIM (xIM (xIM xKM xKL) xKK) xKJ) xKI) xKH) xKG) xKF) xKE) xKD) xJZ) xJY) xJX) xJW) xJV) xJU) xJT) xJS) xJR) xJQ) xJP) xJO) xJN) xJM) xJL) xJK) xJJ) xJI) xJH) xJG) xJF) xJE)
end
section
open Go Go.RowKit
attribute [local irreducible] Calls
def RegQ (b:Bdy) (w:World) (e':Ending) (w':World):Prop:=∃A c s z,e' = .returned (.tuple #[.slice A s.length c,.int .i64 z])/\(chkB b=0->z=0/\Srt2 s (lvR b))/\(¬chkB b=0->z=16/\s=[])/\Slc 2 RPr w' A c s/\Below w.heap.size w w'
structure Ok23 (b:Bdy):Prop where
 ns:NotSkip b
 cnt:chkB b=0->cntB b.blocks<=60
 loc:b.locals.length<=20
 reg:b.regions.length<=10
theorem xLH (b:Bdy) (bh:BH) (w:World) (H:BdAt w b bh) (hz:NmOk b) (hc:¬chkB b=0):
 Calls Tryz.prog 19 #[.agg (bdC b bh).toArray] w fun e' w'=>e' = .returned (.tuple #[.slice none 0 0,.int .i64 16])/\Below w.heap.size w w':=by
 have HK:=aF (fun (W:World) (hb:Below w.heap.size w W)=>pX b bh W (H.keep hb) hz);obtain ⟨A1,c1,A2,c2,A3,c3,A4,c4,A5,c5⟩:=bh;unfold bdC at *;simp only at *;have e0:(chkB b != 0)=true:=by simp [hc]
 obtain ⟨W0,hW0⟩:∃W0,w.alloc (.cells ([Value.string b.name,.slice A1 b.regions.length c1,.slice A2 b.outl.length c2,.slice A3 b.types.length c3,.slice A4 b.locals.length c4,.int .i64 b.args,.slice A5 b.blocks.length c5]).toArray 28)=W0:=⟨_,rfl⟩;have hb0:Below w.heap.size w W0:=by rw [<- hW0];exact (aX _ _).alloc (aY _) _
 have HB0:=aF hb0;have hX:=cQ w [Value.string b.name,.slice A1 b.regions.length c1,.slice A2 b.outl.length c2,.slice A3 b.types.length c3,.slice A4 b.locals.length c4,.int .i64 b.args,.slice A5 b.blocks.length c5] 28;rw [hW0] at hX;obtain ⟨y0,y1,y2,y3,y4,y5,y6⟩:=aS hX;clear hX hb0 H hz hc;go_enter Tryz.func19,Tryz.ntmps19
 go_wp2_with (go_at_call 33;refine (HK.out _ HB0.out).mono ?_;rintro e' w1 ⟨rfl,hw1⟩)
 go_ret2
 exact ⟨rfl,HB0.out.trans (hw1.mono HB0.out.size)⟩
theorem xMM (b:Bdy) (bh:BH) (w:World) (hT:TabsOk w) (H:BdAt w b bh) (h:Ok23 b):Calls Tryz.prog 18 #[.agg (bdC b bh).toArray] w (RegQ b w):=by
 by_cases hc:chkB b=0
 ·refine (xLO b bh w hT H ⟨h.ns,hc,h.cnt hc,h.loc,h.reg⟩).mono ?_;rintro e' w' ⟨A,c,s,rfl,hs,hl,hb⟩;exact ⟨A,c,s,0,rfl,fun _=>⟨rfl,hs⟩,fun h=>absurd hc h,hl,hb⟩
 ·refine (pS b bh w hT H hc).mono ?_;rintro e' w' ⟨rfl,hb⟩;exact ⟨none,0,[],16,rfl,fun h=>absurd h hc,fun _=>⟨rfl,rfl⟩,⟨Sl.nil,by simp,by omega⟩,hb⟩
theorem xMJ (b:Bdy) (bh:BH) (w:World) (H:BdAt w b bh) (hz:NmOk b) (h:Ok23 b):Calls Tryz.prog 19 #[.agg (bdC b bh).toArray] w (RegQ b w):=by
 by_cases hc:chkB b=0
 ·refine (xLI b bh w H hz ⟨h.ns,hc,h.cnt hc,h.loc,h.reg⟩).mono ?_;rintro e' w' ⟨A,c,s,rfl,hs,hl,hb⟩;exact ⟨A,c,s,0,rfl,fun _=>⟨rfl,hs⟩,fun h=>absurd hc h,hl,hb⟩
 ·refine (xLH b bh w H hz hc).mono ?_;rintro e' w' ⟨rfl,hb⟩;exact ⟨none,0,[],16,rfl,fun h=>absurd h hc,fun _=>⟨rfl,rfl⟩,⟨Sl.nil,by simp,by omega⟩,hb⟩
theorem xLM {b:Bdy} {s t:List (Int × Int)} {y z:Int} (a1:chkB b=0->y=0/\Srt2 s (lvR b)) (a2:¬chkB b=0->y=16/\s=[]) (b1:chkB b=0->z=0/\Srt2 t (lvR b)) (b2:¬chkB b=0->z=16/\t=[]):s=t/\y=z:=by
 by_cases hc:chkB b=0
 ·exact ⟨(a1 hc).2.uniq (b1 hc).2,(a1 hc).1.trans (b1 hc).1.symm⟩
 ·exact ⟨(a2 hc).2.trans (b2 hc).2.symm,(a2 hc).1.trans (b2 hc).1.symm⟩
theorem xLU (b:Bdy) (bh:BH) (w:World) (hT:TabsOk w) (H:BdAt w b bh) (hz:NmOk b):
 Calls Tryz.prog 4 #[.agg (bdC b bh).toArray] w fun e' w'=>e' = .returned (.bool true)/\Below w.heap.size w w':=by
 have HAL:=aF (fun (W:World) (hb:Below w.heap.size w W)=>qQ W (hT.keep hb));have HSK:=aF (fun (W:World) (hb:Below w.heap.size w W)=>zJ b bh W (H.keep hb) hz);have HRC:=aF (fun (W:World) (hb:Below w.heap.size w W)=>rcount_any' b bh W (H.keep hb));have HPR:=aF (fun (W:World) (hb:Below w.heap.size w W) (ho:Ok23 b)=>xMM b bh W (hT.keep hb) (H.keep hb) ho);have HRR:=aF (fun (W:World) (hb:Below w.heap.size w W) (ho:Ok23 b)=>xMJ b bh W (H.keep hb) hz ho);have n1:=H.loc.le;have n2:=H.loc.big;have n3:=H.reg.le;have n4:=H.reg.big;obtain ⟨A1,c1,A2,c2,A3,c3,A4,c4,A5,c5⟩:=bh;unfold bdC at *;simp only at *;obtain ⟨W0,hW0⟩:∃W,w.alloc (.cells ([Value.string b.name,.slice A1 b.regions.length c1,.slice A2 b.outl.length c2,.slice A3 b.types.length c3,.slice A4 b.locals.length c4,.int .i64 b.args,.slice A5 b.blocks.length c5]).toArray 28)=W:=⟨_,rfl⟩;have hb0:Below w.heap.size w W0:=by rw [<- hW0];exact (aX _ _).alloc (aY _) _
 have HB0:=aF hb0;have hcx:=cQ w [Value.string b.name,.slice A1 b.regions.length c1,.slice A2 b.outl.length c2,.slice A3 b.types.length c3,.slice A4 b.locals.length c4,.int .i64 b.args,.slice A5 b.blocks.length c5] 28;rw [hW0] at hcx;have HX:=aF (fun (W:World) (hb:Below W0.heap.size W0 W) i v h=>cO hb (hcx i v h));have hX:=hcx;obtain ⟨y0,y1,y2,y3,y4,y5,y6⟩:=aS hX;clear hX hcx hb0 hT H hz;go_enter Tryz.func4,Tryz.ntmps4
 go_wp2_with fail
 first | refine (HSK.out _ HB0.out).mono ?_ | (go_at_call 16;refine (HSK.out _ HB0.out).mono ?_)
 rintro e' w1 ⟨⟨q,rfl,hq⟩,hw1⟩;clear y0 y1 y2 y3 y4 y5 y6;have hX:=HX.out w1 hw1;obtain ⟨y0,y1,y2,y3,y4,y5,y6⟩:=aS hX;clear hX;have HW1:=aF hw1;have HB1:=aF (HB0.out.trans (hw1.mono HB0.out.size));clear hw1;by_cases hq0:0<q
 case pos=>
  clear hq;go_wp2_with (go_at_call 10;refine (HAL.out _ HB1.out).mono ?_;rintro e' w2 ⟨rfl,hw2⟩)
  go_ret;exact ⟨rfl,HB1.out.trans (hw2.mono HB1.out.size)⟩
 have HN:=aF (hq (by omega));clear hq;go_wp2_with fail
 first | refine (HRC.out _ HB1.out).mono ?_ | (go_at_call 17;refine (HRC.out _ HB1.out).mono ?_)
 rintro e' w2 ⟨⟨p,rfl,HPC⟩,hw2⟩;clear y0 y1 y2 y3 y4 y5 y6;have HW2:=aF (HW1.out.trans (hw2.mono HW1.out.size));have hX:=HX.out w2 HW2.out;obtain ⟨y0,y1,y2,y3,y4,y5,y6⟩:=aS hX;clear hX;have HB2:=aF (HB1.out.trans (hw2.mono HB1.out.size));clear hw2;by_cases hall:p<=60/\(b.locals.length:Int)<=20/\(b.regions.length:Int)<=10
 case neg=>
  rcases (show 60<p\/(¬60<p/\(20:Int)<b.locals.length)\/(¬60<p/\¬(20:Int)<b.locals.length/\(10:Int)<b.regions.length) by omega) with h1 | ⟨h1,h2⟩ | ⟨h1,h2,h3⟩
  all_goals
   clear hall;go_wp2_with (go_at_call 10;refine (HAL.out _ HB2.out).mono ?_;rintro e' w3 ⟨rfl,hw3⟩)
   go_ret;exact ⟨rfl,HB2.out.trans (hw3.mono HB2.out.size)⟩
 obtain ⟨h1,h2,h3⟩:=hall
 have HOK:Hid (Ok23 b):=aF ⟨HN.out,fun hc=>by
  have h1:=xN hc HN.out.blk;have h2:=HPC.out (by rw [fR];omega);rw [fR] at h2
  omega,by omega,by omega⟩
 clear HPC
 go_wp2_with (first
  | (go_at_call 20;refine (xMQ _ _ _ _ s w5 HE3.out HE4.out).mono ?_;rintro e' w6 ⟨rfl,hw6⟩)
  | (go_at_call 10;refine (HAL.out _ HB4.out).mono ?_;rintro e' w5 ⟨rfl,hw5⟩;have HB5:=aF (HB4.out.trans (hw5.mono HB4.out.size));have HE3:=aF (HD3.out.keep RPr.keeps hw5);have HE4:=aF (HD4.out.keep RPr.keeps hw5);clear hw5 y0 y1 y2 y3 y4 y5 y6)
  | (go_at_call 19;refine (HRR.out _ HB3.out HOK.out).mono ?_;rintro e' w4 ⟨A4',c4',t,z4,rfl,b1,b2,hl4,hw4⟩;obtain ⟨hst,hzz⟩:=xLM G1.out G2.out b1 b2;subst hst hzz;have HB4:=aF (HB3.out.trans (hw4.mono HB3.out.size));have HW4:=aF (HW3.out.trans (hw4.mono HW3.out.size));have HD3:=aF (HC3.out.keep RPr.keeps hw4);have HD4:=aF hl4;clear hw4 hl4 b1 b2 y0 y1 y2 y3 y4 y5 y6;have hX:=HX.out w4 HW4.out;obtain ⟨y0,y1,y2,y3,y4,y5,y6⟩:=aS hX;clear hX)
  | (go_at_call 18;refine (HPR.out _ HB2.out HOK.out).mono ?_;rintro e' w3 ⟨A3',c3',s,z3,rfl,a1,a2,hl3,hw3⟩;have G1:=aF a1;have G2:=aF a2;have HB3:=aF (HB2.out.trans (hw3.mono HB2.out.size));have HW3:=aF (HW2.out.trans (hw3.mono HW2.out.size));have HC3:=aF hl3;clear hw3 hl3 a1 a2 y0 y1 y2 y3 y4 y5 y6;have hX:=HX.out w3 HW3.out;obtain ⟨y0,y1,y2,y3,y4,y5,y6⟩:=aS hX;clear hX))
 go_ret;exact ⟨rfl,HB5.out.trans (hw6.mono HB5.out.size)⟩
end
section
open Go Go.ChangeShapes Go.WideShapes Go.ChangeAt Go.RowKit
theorem xIP (os:Os) (started:os.Started) (H:Type) (enc:TypeId × Value->H):
 ReturnsInHanded {} Tryz.checked os 4 .any (fun w args=>(Rows.livenessRegionsSpec.pre enc Tryz.prog Tryz.f4 [] false w args/\laidMetH Tryz.prog Rows.livenessRegionsRow.laid w)/\sizedMet enc Tryz.prog Tryz.f4 (OpenSpec.ofChange Rows.livenessRegionsSpec) false w args)
  (Rows.livenessRegionsSpec.post enc Tryz.prog Tryz.f4 false true false false):=by
 refine returnsInHanded_of_change_and (C:=Tryz.checked) (X:=fun w _=>laidMetH Tryz.prog Rows.livenessRegionsRow.laid w) (fun _ _ _ hh h=>h.of_heap hh) Tryz.own started (by kernel_rfl) Tryz.func4
  (ChangeSpec.witness_shaped (enc:=enc) (C:=Tryz.checked) (os:=os) (X:=fun w _=>laidMetH Tryz.prog Rows.livenessRegionsRow.laid w) false (World.laidAll Tryz.prog os Rows.livenessRegionsRow.laid) #[.agg #[.string ⟨#[]⟩,.slice none 0 0,.slice none 0 0,.slice none 0 0,.slice none 0 0,.int .i64 0,.slice none 0 0]] 8 (World.laidAll_os _ _ _) (World.shaped_of_ZipB (by kernel_rfl) (by kernel_rfl)) (by kernel_rfl) (by kernel_rfl) (by kernel_rfl)
    (by rw [MakeChecks.laidMetH_plain _ _ _ (by kernel_rfl)];exact laidMet_laidAll _ (by kernel_rfl) (by kernel_rfl))) ?_
 intro W base args ds gs before hval0 hW _ hwt hL _;have hval:∀(j:Nat) t v,Tryz.f4.params[j]?=some t->args[j]?=some v->Value.okWide Tryz.prog W .any base t v:=hval0;have hW':=hW;obtain ⟨p,q,hA0,hV,rfl,hfz,hnd⟩:=hW;have hA:DataW.TrodAll enc Tryz.prog W 0 (fun _=>true) true Tryz.f4.params.toList args.toList ds p:=hA0;rw [Tryz.params4] at hA hval;obtain ⟨v0,d0,rfl,rfl,h0⟩:=trodAll_one hA;obtain ⟨rfl,rfl⟩:=trodVars_none hV;obtain ⟨bb,bh,rfl,hbd,hnm⟩:=wI (hval 0 _ v0 rfl rfl) h0;have hTT:=xEF hL;clear hA0 hval0;refine (xLU bb bh W hTT hbd hnm).mono fun e W' ⟨he,hb⟩=>?_
 exact ⟨_,he,xAN Tryz.laidOut rfl (by kernel_rfl) Tryz.underlying4 rfl (by rw [Tryz.params4];intro t ht;simp at ht;subst ht;exact ⟨by kernel_rfl,of_decide_eq_true (by kernel_rfl)⟩) hW' hb⟩
theorem xIU:Rows.LivenessRegionsSaid:=
 OpenClaim.holds_of_wide 4 Tryz.f4 rfl rfl rfl rfl rfl rfl rfl ⟨rfl,rfl,rfl,rfl,rfl⟩ rfl rfl rfl rfl rfl (by kernel_rfl) Tryz.func4 xIQ
  (of_decide_eq_true (by kernel_rfl)) (by unfold Func.isWrapper;first | (rw [bA (by decide +kernel)];kernel_rfl) | (rw [aZ (by decide +kernel)];exact ⟨rfl,rfl⟩))
  (fun os started H enc _=>xIP os started H enc)
theorem LivenessRegions_holds:Rows.LivenessRegionsCardSaid:=
 Claim7.holds_tied_plain_at .later [] [.data, .widerDeep, .widerDeep, .pinned] true (true, "c508f7b79725eb36423e68c36a915c820725776de7feaa7e39e53a602ed9389b") false
  xIU (fun _ h=>by cases h) (by kernel_rfl) (fun _ h=>by cases h) livenessRegions_row_tie rfl ⟨rfl,rfl⟩ (by kernel_rfl) rfl
  (fun f fn hf hfn=>by
    obtain rfl:f=4:=Option.some.inj ((show Tryz.prog.funcNamed Rows.livenessRegionsRow.func=some 4 by kernel_rfl).symm.trans hf) |>.symm;obtain rfl:fn=Tryz.f4:=(Option.some.inj (Tryz.func4.symm.trans hfn)).symm
    exact ⟨by kernel_rfl,fun j t ht=>by
     rw [Tryz.params4] at ht;have hm:t∈[28]:=(by simpa using Array.mem_of_getElem? ht);have hall:([28].all fun u=> !Tryz.prog.wantsStandIn u)=true:=by kernel_rfl
     exact (show Tryz.prog.wantsStandIn t=false by simpa using List.all_eq_true.1 hall t hm)⟩)
  (by kernel_rfl)
end
end Go.Proofs.YtcfchohkmkilpaaGreatDoor
