/-
  Parts of the proof: Y24 V53 Y51.
-/
import Derived.Test.YtmknfbfppmkcfaaGreatDoorPI0
import Derived.Test.YtmknfbfppmkcfaaGreatDoorPI17
import Derived.Test.YtmknfbfppmkcfaaGreatDoorPI6
import Derived.Test.YtmknfbfppmkcfaaGreatDoorPI16
import Derived.Test.YtmknfbfppmkcfaaGreatDoorPI10
namespace Go.Proofs.YtmknfbfppmkcfaaGreatDoor
set_option maxRecDepth 100000
set_option maxHeartbeats 16000000
section
open Go Go.RowKit
theorem ybks {b:Bdy}:∀{l:List Blk},bksE b l=0->∀x∈l,bkE b x=0
 | [],_=>by simp
 | y :: r,h=>by
   rw [bksE] at h;by_cases he:bkE b y=0
   ·rw [bA he] at h;intro x hx;rcases List.mem_cons.1 hx with rfl | hx
    ·exact he
    ·exact ybks h x hx
   ·rw [aZ he] at h;exact absurd h he
theorem ysts {b:Bdy}:∀{l:List Stm},stsE b l=0->∀x∈l,stE b x=0
 | [],_=>by simp
 | y :: r,h=>by
   rw [stsE] at h;by_cases he:stE b y=0
   ·rw [bA he] at h;intro x hx;rcases List.mem_cons.1 hx with rfl | hx
    ·exact he
    ·exact ysts h x hx
   ·rw [aZ he] at h;exact absurd h he
theorem ybk {b:Bdy} {x:Blk} (h:bkE b x=0):stsE b x.stmts=0/\tmE b x.term=0:=by
 unfold bkE at h;split at h
 ·cases h
 split at h
 ·exact absurd h ‹_›
 ·exact ⟨Decidable.not_not.1 ‹_›,h⟩
theorem ychk {b:Bdy} (h:chkB b=0):declC b=0/\bksE b b.blocks=0:=by
 unfold chkB at h;split at h
 ·exact ⟨‹_›,h⟩
 ·exact absurd h ‹_›
theorem yops {b:Bdy}:∀{l:List Opd} {fs:List Int},opsE b l fs=0->∀o∈l,opE b o=0
 | [],_,_=>by simp
 | x :: r,[],h=>by
   rw [opsE] at h;split at h
   ·rename_i he;intro o ho;rcases List.mem_cons.1 ho with rfl | ho
    ·exact he
    ·exact yops h o ho
   ·exact absurd h ‹_›
 | x :: r,f :: fs,h=>by
   rw [opsE] at h;split at h
   ·rename_i he;split at h
    ·intro o ho;rcases List.mem_cons.1 ho with rfl | ho
     ·exact he
     ·exact yops h o ho
    ·cases h
   ·exact absurd h ‹_›
theorem uC:∀{ps:List Pj},chkP ps=0->∀x∈ps,okJ x
 | [],_=>by simp
 | y :: r,h=>by
   rw [chkP] at h;split at h
   ·cases h
   split at h
   ·cases h
   split at h
   ·cases h
   intro x hx;rcases List.mem_cons.1 hx with rfl | hx
   ·unfold okJ;omega
   ·exact uC h x hx
theorem xGR {l:Int} {ps:List Pj} (h:chk l ps=0):∀x∈ps,okJ x:=by
 unfold chk at h;split at h
 ·cases h
 split at h
 ·cases h
 exact uC h
theorem lO {b:Bdy} {p:Plc} (h:(tyB b p).2=0):OkPl b.locals p:=by
 obtain ⟨h1,h2,h3⟩:=eK h;exact ⟨⟨h2,h3⟩,xGR h1⟩
theorem eS {p:Plc} (h:zeroP p=true):p=⟨0,[]⟩:=by
 unfold zeroP at h;simp only [bQ,decide_eq_true_eq] at h;obtain ⟨l,ps⟩:=p;obtain ⟨rfl,h2⟩:=h;obtain rfl:=bV h2;rfl
theorem jX {b:Bdy} {o:Opd} (h:opE b o=0):OkOp b.locals o:=by
 unfold opE at h;split at h
 ·cases h
 rename_i h1;split at h
 ·cases h
 rename_i h2;split at h
 ·cases h
 rename_i h3
 have hz:1<o.kind->o.place=⟨0,[]⟩:=fun hk=>eS (by
  cases e:zeroP o.place
  ·exact absurd (.inr ⟨hk,e⟩) h2
  ·rfl)
 have hn:o.kind≠2->o.kind≠3->o.n=0:=fun a b=>by
  by_cases e:o.n=0
  ·exact e
  ·exact absurd (.inl ⟨a,b,e⟩) h2
 have hb:o.kind=3->o.n=0\/o.n=1:=fun a=>by
  by_cases e:o.n=0
  ·exact .inl e
  ·by_cases e':o.n=1
   ·exact .inr e'
   ·exact absurd ⟨a,e,e'⟩ h3
 refine ⟨by omega,hn,hz,hb,fun hk=>?_,?_⟩
 ·rw [aZ (by omega)] at h;split at h
  ·exact absurd h ‹_›
  ·exact lO (Decidable.not_not.1 ‹_›)
 ·by_cases hk:1<o.kind
  ·rw [hz hk];simp
  ·rw [aZ (by omega)] at h;split at h
   ·exact absurd h ‹_›
   ·exact nS (Decidable.not_not.1 ‹_›)
theorem xFT {b:Bdy} (hok:Okay b.types b.locals) {r:Rvl} {p:Plc} (hp:(tyB b p).2=0) (h:rvE b r (tyB b p).1=0):OkRv b.locals b.regions r:=by
 obtain ⟨t0,t1⟩:=fL hok hp;obtain ⟨ty,ht⟩:∃ty,b.types[(tyB b p).1.toNat]?=some ty:=⟨_,bD (show (tyOf b.types b.locals p.loc p.proj).1.toNat<b.types.length by omega)⟩;generalize (tyB b p).1=t at h ht;unfold rvE at h;split at h
 ·cases h
 rename_i h1;split at h
 ·cases h
 rename_i h2;rw [Bool.not_eq_false] at h2;unfold unusedR at h2;simp only at h2;have hk:r.kind=0\/r.kind=1\/r.kind=2\/r.kind=3\/r.kind=4:=by omega
 rcases hk with hk | hk | hk | hk | hk
 ·rw [bA hk] at h;simp only [hk,if_true,if_false,bQ,decide_eq_true_eq,Bool.not_eq_true',Int.reduceEq] at h2;obtain ⟨⟨⟨⟨a1,a2⟩,a3⟩,a4⟩,a5⟩:=h2;exact ⟨by omega,fun _=>⟨a1,a2,eS a3⟩,fun e=>by omega,fun _=>a4,fun _=>a5,fun e=>by omega,fun e=>by omega,fun o ho=>jX (yops h o ho)⟩
 ·rw [aZ (by omega),bA hk] at h;simp only [hk,if_true,if_false,bQ,decide_eq_true_eq,Int.reduceEq] at h2;obtain ⟨a1,a2⟩:=h2;have a3:=bV a2;unfold borE at h;split at h
  ·exact absurd h ‹_›
  rename_i h3;split at h
  ·cases h
  rename_i h4;exact ⟨by omega,fun e=>by omega,fun _=>⟨a1,a3,⟨by omega,by omega⟩,lO (Decidable.not_not.1 h3)⟩,fun _=>a1,fun e=>by omega,fun e=>by omega,fun e=>by omega,fun o ho=>by rw [a3] at ho;cases ho⟩
 ·rw [aZ (by omega),aZ (by omega),bA hk] at h;simp only [hk,if_true,if_false,bQ,decide_eq_true_eq,Bool.not_eq_true',Int.reduceEq] at h2;obtain ⟨⟨⟨a1,a2⟩,a3⟩,a5⟩:=h2;unfold operE at h;split at h
  ·cases h
  rename_i h3;split at h
  ·exact absurd h ‹_›
  rename_i h4;have h5:¬(r.op<0\/(2:Int)<=r.op):=h3;exact ⟨by omega,fun _=>⟨a1,a2,eS a3⟩,fun e=>by omega,fun e=>by omega,fun e=>by omega,fun _=>by omega,fun e=>by omega,fun o ho=>jX (yops (Decidable.not_not.1 h4) o ho)⟩
 ·rw [aZ (by omega),aZ (by omega),aZ (by omega),bA hk] at h;simp only [hk,if_true,if_false,bQ,decide_eq_true_eq,Bool.not_eq_true',Int.reduceEq] at h2;obtain ⟨⟨⟨a1,a2⟩,a3⟩,a5⟩:=h2;unfold operE at h;split at h
  ·cases h
  rename_i h3;split at h
  ·exact absurd h ‹_›
  rename_i h4;have h5:¬(r.op<0\/(6:Int)<=r.op):=h3;exact ⟨by omega,fun _=>⟨a1,a2,eS a3⟩,fun e=>by omega,fun e=>by omega,fun e=>by omega,fun e=>by omega,fun _=>by omega,fun o ho=>jX (yops (Decidable.not_not.1 h4) o ho)⟩
 ·rw [aZ (by omega),aZ (by omega),aZ (by omega),aZ (by omega),ht] at h;simp only [hk,if_false,bQ,decide_eq_true_eq,Bool.not_eq_true',Int.reduceEq] at h2;obtain ⟨⟨⟨a1,a2⟩,a3⟩,a4⟩:=h2;simp only at h;split at h
  ·cases h
  exact ⟨by omega,fun _=>⟨a1,a2,eS a3⟩,fun e=>by omega,fun _=>a4,fun e=>by omega,fun e=>by omega,fun e=>by omega,fun o ho=>jX (yops h o ho)⟩
theorem uE {r:Rvl} (h:blankR r=true):r=⟨0,0,0,false,⟨0,[]⟩,[]⟩:=by
 unfold blankR at h;simp only [bQ,decide_eq_true_eq,Bool.not_eq_true'] at h;obtain ⟨⟨⟨⟨⟨a1,a2⟩,a3⟩,a4⟩,a5⟩,a6⟩:=h;obtain ⟨k,op,reg,mu,place,args⟩:=r;simp only at a1 a2 a3 a4 a5 a6;subst a1 a2 a4 a5;rw [eS a6,bV a3]
theorem nQ {b:Bdy} {p:Plc} (h:writE b p=0):(tyB b p).2=0:=by
 unfold writE at h;split at h
 ·exact absurd h ‹_›
 ·exact Decidable.not_not.1 ‹_›
theorem oG {b:Bdy} (hok:Okay b.types b.locals) {s:Stm} (h:stE b s=0):OkSt b.locals b.regions s:=by
 unfold stE at h;split at h
 ·rename_i hk;split at h
  ·cases h
  rename_i hl;split at h
  ·exact absurd h ‹_›
  rename_i hw;have ht:=nQ (Decidable.not_not.1 hw);exact ⟨by omega,fun _=>⟨Decidable.not_not.1 hl,lO ht,xFT hok ht h⟩,fun e=>absurd hk e,fun e=>by omega,fun e=>by omega⟩
 rename_i hk;split at h
 ·rename_i hk1;split at h
  ·cases h
  rename_i hz;split at h
  ·cases h
  rename_i hl;simp only [not_or,Bool.not_eq_false] at hz;exact ⟨by omega,fun e=>absurd e hk,fun _=>⟨eS hz.1,uE hz.2⟩,fun _=>⟨by omega,by omega⟩,fun e=>by omega⟩
 rename_i hk1;split at h
 ·rename_i hk2;split at h
  ·cases h
  rename_i hz;simp only [not_or,Bool.not_eq_false] at hz;exact ⟨by omega,fun e=>absurd e hk,fun _=>⟨eS hz.1,uE hz.2.1⟩,fun e=>absurd e hk1,fun _=>Decidable.not_not.1 hz.2.2⟩
 ·cases h
theorem lR {n:ByteArray} (h:n.size=0):n=⟨#[]⟩:=by
 obtain ⟨d⟩:=n;rw [show d = #[] from Array.eq_empty_of_size_eq_zero h]
theorem oF {b:Bdy} {t:Trm} (h:tmE b t=0):OkTm b.locals t:=by
 unfold tmE at h;split at h
 ·cases h
 rename_i h1;split at h
 ·cases h
 rename_i h2;rw [Bool.not_eq_false] at h2;unfold fieldsT at h2;split at h
 ·cases h
 have hk:t.kind=0\/t.kind=1\/t.kind=2\/t.kind=3\/t.kind=4\/t.kind=5:=by omega
 rcases hk with hk | hk | hk | hk | hk | hk
 ·simp only [hk,if_true,if_false,bQ,decide_eq_true_eq,Int.reduceEq] at h2;obtain ⟨⟨⟨a1,a2⟩,a3⟩,a4⟩:=h2;have a5:=bV a2;exact ⟨by omega,fun _=>a1,fun e=>by omega,fun e=>by omega,fun _ _=>a5,fun _ _=>eS a3,fun _=>lR a4,fun e=>by omega,fun e=>by omega,fun o ho=>by rw [a5] at ho;cases ho⟩
 ·simp only [hk,if_true,if_false,bQ,decide_eq_true_eq,Int.reduceEq] at h2;obtain ⟨⟨⟨a1,a2⟩,a3⟩,a4⟩:=h2;rw [bA hk] at h
  have hargs:∀o∈t.args,OkOp b.locals o:=by
   match e:t.args,a2 with
   | [o],_=>
     rw [e] at h;simp only at h;split at h
     ·exact absurd h ‹_›
     ·intro x hx;rw [List.mem_singleton.1 hx];exact jX (Decidable.not_not.1 ‹_›)
  exact ⟨by omega,fun e=>by omega,fun _=>⟨a1,a2⟩,fun e=>by omega,fun e=>absurd hk e,fun _ _=>eS a3,fun _=>lR a4,fun e=>by omega,fun e=>by omega,hargs⟩
 ·simp only [hk,if_false,bQ,decide_eq_true_eq,Int.reduceEq] at h2;obtain ⟨⟨⟨a1,a2⟩,a3⟩,a4⟩:=h2;have a5:=bV a2;exact ⟨by omega,fun e=>by omega,fun e=>by omega,fun _=>bV a1,fun _ _=>a5,fun _ _=>eS a3,fun _=>lR a4,fun e=>by omega,fun e=>by omega,fun o ho=>by rw [a5] at ho;cases ho⟩
 ·simp only [hk,if_true,if_false,decide_eq_true_eq,Int.reduceEq] at h2;rw [aZ (by omega),bA hk] at h;split at h
  ·cases h
  rename_i h3;split at h
  ·cases h
  split at h
  ·exact absurd h ‹_›
  rename_i h4;exact ⟨by omega,fun _=>h2,fun e=>by omega,fun e=>by omega,fun _ e=>absurd hk e,fun e=>absurd hk e,fun e=>absurd hk e,fun _=>by simpa using h3,fun _=>lO (nQ h),fun o ho=>jX (yops (Decidable.not_not.1 h4) o ho)⟩
 ·simp only [hk,if_true,if_false,bQ,decide_eq_true_eq,Int.reduceEq] at h2;obtain ⟨⟨a1,a2⟩,a4⟩:=h2;have a5:=bV a2;rw [aZ (by omega),aZ (by omega),bA hk] at h;split at h
  ·exact absurd h ‹_›
  rename_i h4;exact ⟨by omega,fun _=>a1,fun e=>by omega,fun e=>by omega,fun _ _=>a5,fun _ e=>absurd hk e,fun _=>lR a4,fun e=>by omega,fun _=>lO (Decidable.not_not.1 h4),fun o ho=>by rw [a5] at ho;cases ho⟩
 ·simp only [hk,if_false,bQ,decide_eq_true_eq,Int.reduceEq] at h2;obtain ⟨⟨⟨a1,a2⟩,a3⟩,a4⟩:=h2;have a5:=bV a2;exact ⟨by omega,fun e=>by omega,fun e=>by omega,fun _=>bV a1,fun _ _=>a5,fun _ _=>eS a3,fun _=>lR a4,fun e=>by omega,fun e=>by omega,fun o ho=>by rw [a5] at ho;cases ho⟩
theorem xDN:∀{l seen:List ByteArray},namesE seen l=0->(∀s∈l,isIdent s=true)/\l.Nodup/\∀s∈l,s∉seen
 | [],_,_=>by simp
 | x :: r,seen,h=>by
   rw [namesE] at h;split at h
   ·cases h
   rename_i h1;split at h
   ·cases h
   rename_i h2;obtain ⟨a1,a2,a3⟩:=xDN h;have h3:x∉seen:=fun e=>h2 (tM.2 e)
   refine ⟨fun s hs=>?_,List.nodup_cons.2 ⟨fun e=>a3 x e (by simp),a2⟩,fun s hs=>?_⟩
   ·rcases List.mem_cons.1 hs with rfl | hs
    ·simpa using h1
    ·exact a1 s hs
   ·rcases List.mem_cons.1 hs with rfl | hs
    ·exact h3
    ·exact fun e=>a3 s hs (by simp [e])
theorem wI {nt:Nat}:∀{l:List Lc} {seen:List ByteArray},localsE nt seen l=0->(∀s∈l,isIdent s.name=true)/\(l.map (·.name)).Nodup/\∀s∈l,s.name∉seen
 | [],_,_=>by simp
 | x :: r,seen,h=>by
   rw [localsE] at h;split at h
   ·cases h
   rename_i h1;split at h
   ·cases h
   rename_i h2;split at h
   ·cases h
   obtain ⟨a1,a2,a3⟩:=wI h;have h3:x.name∉seen:=fun e=>h2 (tM.2 e)
   refine ⟨fun s hs=>?_,?_,fun s hs=>?_⟩
   ·rcases List.mem_cons.1 hs with rfl | hs
    ·simpa using h1
    ·exact a1 s hs
   ·rw [cJ,List.nodup_cons];refine ⟨fun e=>?_,a2⟩;obtain ⟨y,hy,e⟩:=List.mem_map.1 e;exact a3 y hy (by simp [e])
   ·rcases List.mem_cons.1 hs with rfl | hs
    ·exact h3
    ·exact fun e=>a3 s hs (by simp [e])
theorem tK {α : Type} {l:List α} (h:l.Nodup) {i j:Nat} {a : α} (hi:l[i]?=some a) (hj:l[j]?=some a):i=j:=by
 obtain ⟨h1,_⟩:=List.getElem?_eq_some_iff.1 hi;exact (List.getElem?_inj h1 h).1 (by rw [hi,hj])
theorem xFU {l:List ByteArray} (h:namesC l=0):NmRs l:=by
 unfold namesC at h;split at h
 ·cases h
 obtain ⟨a1,a2,_⟩:=xDN h;exact ⟨fun i x hi=>a1 x (List.mem_of_getElem? hi),fun i j a b hi hj e=>tK a2 hi (by rw [hj,e])⟩
theorem xFV {nt:Nat} {l:List Lc} (h:localsE nt [] l=0):NmLs l:=by
 obtain ⟨a1,a2,_⟩:=wI h;refine ⟨fun i x hi=>a1 x (List.mem_of_getElem? hi),fun i j a b hi hj e=>tK (a:=a.name) a2 ?_ ?_⟩
 ·rw [cL,hi];rfl
 ·rw [cL,hj,e];rfl
theorem xFS {prev:List Ty} {d:List Int} {rs:List ByteArray} {t:Ty} (h:(tyE prev d rs.length t).1=0):OkTy rs t:=by
 unfold tyE at h;split at h
 ·cases h
 rename_i h1;split at h
 ·cases h
 rename_i h2;split at h
 ·cases h
 rename_i h3;clear h
 have hf:t.kind≠4->t.flds=[]:=fun e=>bV (by
  by_cases e':t.flds.length=0
  ·exact e'
  ·exact absurd (.inr ⟨e,by omega⟩) h2)
 have hm:t.kind≠3->t.mu=false/\t.reg=0/\t.elem=0:=fun e=>by
  have h4:¬(t.mu=true\/t.reg≠0\/t.elem≠0):=fun e'=>h2 (.inl ⟨e,e'⟩)
  simp only [not_or,Bool.not_eq_true,Decidable.not_not] at h4;exact h4
 exact ⟨by omega,hm,hf,fun e=>⟨by omega,by omega⟩⟩
theorem xDM {rs:List ByteArray}:∀{l prev:List Ty} {d:List Int},typesE rs.length prev d l=0->∀t∈l,OkTy rs t
 | [],_,_,_=>by simp
 | x :: r,prev,d,h=>by
   rw [typesE] at h;split at h
   ·rename_i h0;intro t ht;rcases List.mem_cons.1 ht with rfl | ht
    ·exact xFS h0
    ·exact xDM h t ht
   ·exact absurd h ‹_›
theorem qB {b:Bdy} (h:chkB b=0):OkB b:=by
 obtain ⟨hd,hb⟩:=ychk h;have D:=dS hd;refine ⟨D.name,xFU D.regs,fun x hx=>?_,?_,xFV D.locE,D.args,fun x hx=>?_⟩
 ·obtain ⟨a,b,c,d⟩:=D.pairs x hx;exact ⟨⟨a,b⟩,⟨c,d⟩⟩
 ·have:=D.typC;unfold typesC at this;split at this
  ·cases this
  exact xDM this
 ·obtain ⟨h1,h2⟩:=ybk (ybks hb x hx);exact ⟨fun s hs=>oG D.okay (ysts h1 s hs),oF h2⟩
end
section
open Go Go.RowKit Go.Maps
theorem rH (b:Bdy) (bh:BH) (w:World) (H:BdAt w b bh) (hz:∀x∈b.blocks,x.term.name.size<=9223372036854775807)
 (hdecl:∀W,Below w.heap.size w W->Calls Tryz.prog 54 #[.agg (bdC b bh).toArray] W fun e' w'=>e' = .returned (.int .i64 (declC b))/\Below W.heap.size W w')
 (hstm:declC b=0->∀W,Below w.heap.size w W->∀(s:Stm) (A0 A B:Option Addr) (c0 c d:Nat),Slc 2 RPj w A0 c0 s.place.proj->Slc 2 RPj w A c s.rv.place.proj->Slc 4 ROp w B d s.rv.args->
   Calls Tryz.prog 55 #[.agg (bdC b bh).toArray,.agg (stC s A0 c0 A c B d).toArray] W fun e' w'=>e' = .returned (.int .i64 (stE b s))/\Below W.heap.size W w')
 (htm:declC b=0->∀W,Below w.heap.size w W->∀(t:Trm) (A B C:Option Addr) (c d f:Nat),Slc 1 RInt w A c t.targets->Slc 4 ROp w B d t.args->Slc 2 RPj w C f t.place.proj->t.name.size<=9223372036854775807->
   Calls Tryz.prog 56 #[.agg (bdC b bh).toArray,.agg (tmC t A c B d C f).toArray] W fun e' w'=>e' = .returned (.int .i64 (tmE b t))/\Below W.heap.size W w'):
 Calls Tryz.prog 17 #[.agg (bdC b bh).toArray] w fun e' w'=>e' = .returned (.int .i64 (chkB b))/\Below w.heap.size w w':=by
 have HZ:=aF hz;have HD:=aF hdecl;have HST:=aF hstm;have HTM:=aF htm;have HBLK:=aF H.blk;have hbl:=H.blk.le;have hbg:=H.blk.big;obtain ⟨R,hR⟩:∃R,chkB b=R:=⟨_,rfl⟩;rw [hR];have HR:Hid (R=if declC b=0 then bksE b b.blocks else declC b):=aF hR.symm;have HNB:=aF (fun h=>(dS (b:=b) h).nblk.1);clear hR H hdecl hstm htm hz;unfold bdC at *;by_cases hd:declC b=0
 case neg=>
  have HF:Hid (R=declC b):=aF (by rw [HR.out,aZ hd]);generalize declC b=de at HD HF hd;have e1:(de != 0)=true:=by simp [hd]
  clear HR HST HTM HNB hd;go_enter Tryz.func17,Tryz.ntmps17
  go_wp2_with (go_at_call 54;refine (HD.out _ ((aX _ _).alloc (aY _) _)).mono ?_;rintro e' w1 ⟨rfl,hb1⟩;have HB:=aF (((aX _ _).alloc (aY _) _).trans (hb1.mono ((aX _ _).alloc (aY _) _).size));clear hb1)
  go_ret;exact ⟨by rw [HF.out];rfl,HB.out⟩
 case pos=>
 have HF:Hid (R=bksE b b.blocks):=aF (by rw [HR.out,bA hd]);have HSM:=aF (HST.out hd);have HTT0:=aF (HTM.out hd);obtain ⟨bb,oo,hA5,hbb,hel⟩:=HBLK.out.sl (HNB.out hd);have HEL:=aF hel;rw [hd] at HD;clear HR HST HTM HNB hd hel;rw [hA5] at HD HSM HTT0 ⊢;have HCW:=aF (cU w [Value.string b.name,.slice bh.A1 b.regions.length bh.c1,.slice bh.A2 b.outl.length bh.c2,.slice bh.A3 b.types.length bh.c3,.slice bh.A4 b.locals.length bh.c4,.int .i64 b.args,.slice (some ⟨bb,oo,none⟩) b.blocks.length bh.c5] 28);go_enter Tryz.func17,Tryz.ntmps17
 go_wp2_with (go_at_call 54;refine (HD.out _ ((aX _ _).alloc (aY _) _)).mono ?_;rintro e' w1 ⟨rfl,hb1⟩;have HB:=aF (((aX _ _).alloc (aY _) _).trans (hb1.mono ((aX _ _).alloc (aY _) _).size));have HC1:=aF (cN HCW.out hb1);have hsz1:w.heap.size<w1.heap.size:=bO (by simp) hb1.size;clear hb1)
 go_loopg [4] b.blocks.length (fun gk i wr=>∃k:Nat,gk=b.blocks.length - k/\k<=b.blocks.length/\i = .int .i64 k/\Hid (aA (bdM b bh.A1 bh.c1 bh.A2 bh.c2 bh.A3 bh.c3 bh.A4 bh.c4 (some ⟨bb,oo,none⟩) bh.c5 []) wr w.heap.size)/\Hid (Below w.heap.size w wr)/\w.heap.size<wr.heap.size/\Hid (R=bksE b (b.blocks.drop k)))
 case atStart=>exact ⟨0,by omega,by omega,rfl,HC1,HB,hsz1,HF⟩
 case round=>
  clear HC1 HB HF HCW;obtain ⟨k,hgk,hk,rfl,HCC,HB3,hlw3,hr⟩:=hrel;obtain ⟨y0,y1,y2,y3,y4,y5,y6⟩:=aS HCC.out;by_cases hlt:k<b.blocks.length
  ·have hd:=cV hlt;have hx:=HEL.out k _ (bD hlt);have hxz:=HZ.out _ (bN hlt);obtain ⟨x,hxx⟩:∃x,b.blocks[k]=x:=⟨_,rfl⟩;rw [hxx] at hd hx hxz;obtain ⟨A1,c1,A2,c2,A3,c3,A4,c4,p0,p1,p2,p3,p4,p5,p6,hs1,hs2,hs3,hs4⟩:=hH hx;have HQ:Hid (R=if bkE b x=0 then bksE b (b.blocks.drop (k+1)) else bkE b x):=aF (by rw [hr.out,hd,bksE]);have HS1:=aF hs1;have hl1:=hs1.le;have hg1:=hs1.big;have HTT:=aF (fun W hb=>HTT0.out W hb x.term A2 A3 A4 c2 c3 c4 hs2 hs3 hs4 hxz);unfold tmC at HTT;replace p0:=cM HB3.out p0;replace p1:=cM HB3.out p1;replace p2:=cM HB3.out p2;replace p3:=cM HB3.out p3;replace p4:=cM HB3.out p4;replace p5:=cM HB3.out p5;replace p6:=cM HB3.out p6;clear hd hx hxx hr hs1 hs2 hs3 hs4 hxz;by_cases hln:65535<x.stmts.length
   ·have HF:Hid (R=15):=aF (by rw [HQ.out];unfold bkE;rw [bA hln];rfl);clear HQ;go_wp2_with fail
    go_ret;exact ⟨by rw [HF.out];rfl,HB3.out.alloc (Nat.le_of_lt hlw3) _⟩
   have HQ2:Hid (R=if stsE b (x.stmts.drop 0)=0 then (if tmE b x.term=0 then bksE b (b.blocks.drop (k+1)) else tmE b x.term) else stsE b (x.stmts.drop 0)):=aF (by
    rw [HQ.out,bX];unfold bkE;rw [aZ hln]
    by_cases h:stsE b x.stmts=0 <;> simp [h])
   have HBK:=aF (cU wr (bkL x A1 c1 A2 c2 A3 c3 A4 c4) 64);have HCC2:Hid (∀i v,[Value.string b.name,.slice bh.A1 b.regions.length bh.c1,.slice bh.A2 b.outl.length bh.c2,.slice bh.A3 b.types.length bh.c3,.slice bh.A4 b.locals.length bh.c4,.int .i64 b.args,.slice (some ⟨bb,oo,none⟩) b.blocks.length bh.c5][i]?=some v->(wr.alloc (.cells (bkL x A1 c1 A2 c2 A3 c3 A4 c4).toArray 64)).cell? ⟨w.heap.size,i,none⟩=some v):=aF (fun i v hi=>cM ((aX _ _).alloc (aY _) _) (HCC.out i v hi));have HB4:=aF (HB3.out.alloc (Nat.le_of_lt hlw3) (.cells (bkL x A1 c1 A2 c2 A3 c3 A4 c4).toArray 64));obtain ⟨gx,hgx⟩:∃g,wr.heap.size=g:=⟨_,rfl⟩;clear HQ;go_wp2_with fail
   go_loopg [6] x.stmts.length (fun gj i wr2=>∃j:Nat,gj=x.stmts.length - j/\j<=x.stmts.length/\i = .int .i64 j/\Hid (aA (bdM b bh.A1 bh.c1 bh.A2 bh.c2 bh.A3 bh.c3 bh.A4 bh.c4 (some ⟨bb,oo,none⟩) bh.c5 []) wr2 w.heap.size)/\Hid (aA (bkL x A1 c1 A2 c2 A3 c3 A4 c4) wr2 wr.heap.size)/\Hid (Below w.heap.size w wr2)/\wr.heap.size+1<=wr2.heap.size/\Hid (R=if stsE b (x.stmts.drop j)=0 then (if tmE b x.term=0 then bksE b (b.blocks.drop (k+1)) else tmE b x.term) else stsE b (x.stmts.drop j)))
   case atStart=>exact ⟨0,by omega,by omega,rfl,HCC2,HBK,HB4,by simp,HQ2⟩
   case round=>
    clear HCC2 HBK HB4 HQ2 p0 p1 p2 p3 p4 p5 p6 HCC HB3 y0 y1 y2 y3 y4 y5 y6;obtain ⟨j,hgj,hj,rfl,HCC,HBK,HB5,hsz5,hr⟩:=hrel;have hlw5:=Nat.lt_of_succ_le hsz5;have hlw6:=Nat.lt_trans hlw3 hlw5;rw [hgx] at HBK hlw5 hsz5;by_cases hjl:j<x.stmts.length
    ·have hd:=cV hjl;obtain ⟨b3,o3,hA1,hb3,hy⟩:=HS1.out.sl.at_ hjl;have HA1:=aF hA1;clear hA1;obtain ⟨s,hss⟩:∃s,x.stmts[j]=s:=⟨_,rfl⟩;rw [hss] at hd hy;obtain ⟨B0,d0,B1,d1,B2,d2,m0,m1,m2,m3,m4,m5,m6,m7,m8,m9,m10,hp0,hp,hl⟩:=iV hy;have HSS:=aF (fun W hb=>HSM.out W hb s B0 B1 B2 d0 d1 d2 hp0 hp hl);unfold stC at HSS
     have hmm:∀X,Below w.heap.size w X->∀i v,(stC s B0 d0 B1 d1 B2 d2)[i]?=some v->X.cell? ⟨b3,o3+j * 11+i,none⟩=some v:=fun X hX i v hi=>by
      refine cM hX ?_;match i,hi with
      | 0,hi=>simp [stC] at hi;subst hi;exact m0
      | 1,hi=>simp [stC] at hi;subst hi;exact m1
      | 2,hi=>simp [stC] at hi;subst hi;exact m2
      | 3,hi=>simp [stC] at hi;subst hi;exact m3
      | 4,hi=>simp [stC] at hi;subst hi;exact m4
      | 5,hi=>simp [stC] at hi;subst hi;exact m5
      | 6,hi=>simp [stC] at hi;subst hi;exact m6
      | 7,hi=>simp [stC] at hi;subst hi;exact m7
      | 8,hi=>simp [stC] at hi;subst hi;exact m8
      | 9,hi=>simp [stC] at hi;subst hi;exact m9
      | 10,hi=>simp [stC] at hi;subst hi;exact m10
      | i+11,hi=>simp [stC] at hi
     have HMM:=aF hmm
     have HQ3:Hid ((stE b s=0->R=if stsE b (x.stmts.drop (j+1))=0 then (if tmE b x.term=0 then bksE b (b.blocks.drop (k+1)) else tmE b x.term) else stsE b (x.stmts.drop (j+1)))/\(stE b s≠0->R=stE b s)):=aF (by
      rw [hr.out,hd];constructor
      ·intro h;rw [show stsE b (s :: x.stmts.drop (j+1))=stsE b (x.stmts.drop (j+1)) from by rw [stsE,bA h]]
      ·intro h;rw [show stsE b (s :: x.stmts.drop (j+1))=stE b s from by rw [stsE,aZ h],aZ h])
     generalize stE b s=es at HSS HQ3;clear hd hy hss hp0 hp hl hr hmm m0 m1 m2 m3 m4 m5 m6 m7 m8 m9 m10;have k0:=HBK.out 0 _ rfl;go_wp2_with fail
     have hS:(aA (bdM b bh.A1 bh.c1 bh.A2 bh.c2 bh.A3 bh.c3 bh.A4 bh.c4 (some ⟨bb,oo,none⟩) bh.c5 []) wr.drew w.heap.size)/\(aA (bkL x A1 c1 A2 c2 A3 c3 A4 c4) wr.drew gx)/\Below w.heap.size w wr.drew:=⟨HCC.out,HBK.out,HB5.out.drew⟩;clear k0;refine cO (S:=fun X=>(aA (bdM b bh.A1 bh.c1 bh.A2 bh.c2 bh.A3 bh.c3 bh.A4 bh.c4 (some ⟨bb,oo,none⟩) bh.c5 []) X w.heap.size)/\(aA (bkL x A1 c1 A2 c2 A3 c3 A4 c4) X gx)/\Below w.heap.size w X) [0,1,2,3,4,5,6,7] (by kernel_rfl) ?_;(iterate 6 (refine cP (v:=?_) ?_ hS ?_;rotate_left;(next=>(rintro X ⟨hX,hY,hZ⟩;obtain ⟨s0,s1,s2,s3,s4,s5,s6⟩:=aS hX;have t0:=hY 0 _ rfl;rw [HA1.out] at t0;have m0:=HMM.out X hZ 0 _ rfl;have m1:=HMM.out X hZ 1 _ rfl;have m2:=HMM.out X hZ 2 _ rfl;have m3:=HMM.out X hZ 3 _ rfl;have m4:=HMM.out X hZ 4 _ rfl;have m5:=HMM.out X hZ 5 _ rfl;have m6:=HMM.out X hZ 6 _ rfl;have m7:=HMM.out X hZ 7 _ rfl;have m8:=HMM.out X hZ 8 _ rfl;have m9:=HMM.out X hZ 9 _ rfl;have m10:=HMM.out X hZ 10 _ rfl;rw [Nat.add_zero] at m0;(try simp only [aI]);go_simp;rfl));simp only [aM]));(refine cS (fun K1 hK1=>?_);simp only [aM];rw [bA (by rfl)];go_simp);refine (HSS.out _ hS.2.2).mono ?_;rintro e' w5 ⟨rfl,hb5⟩;replace hS:=bJ (cN hS.1 hb5) (bJ (cN hS.2.1 hb5) (hS.2.2.trans (hb5.mono hS.2.2.size)));have HS5:=aF hS;have hsz7:wr.heap.size<=w5.heap.size:=hb5.size;clear hb5;refine hK1.out _ _ (fun _=>hS) ?_;clear hK1;((refine cP (v:=?_) ?_ hS ?_;rotate_left;(next=>(rintro X -;(try simp only [aI]);go_simp;rfl));simp only [aM]))
     refine cZ ?_;clear hS;by_cases he:es=0
     ·subst he;have HF:=aF (HQ3.out.1 rfl);clear HQ3;go_wp2_with fail
      go_roundg (x.stmts.length - (j+1))
      case measure=>omega
      case rel=>exact ⟨j+1,rfl,by omega,by go_num,aF HS5.out.1,aF (by rw [hgx];exact HS5.out.2.1),aF HS5.out.2.2,by omega,HF⟩
     ·have HF:=aF (HQ3.out.2 he);have e1:(es != 0)=true:=by simp [he]
      clear HQ3 he;go_wp2_with fail
      go_ret;exact ⟨by rw [HF.out];rfl,HS5.out.2.2⟩
    ·have HQ3:Hid (R=if tmE b x.term=0 then bksE b (b.blocks.drop (k+1)) else tmE b x.term):=aF (by rw [hr.out,bE (by omega:x.stmts.length<=j)];rfl);obtain ⟨y0,y1,y2,y3,y4,y5,y6⟩:=aS HCC.out;obtain ⟨k0,k1,k2,k3,k4,k5,k6⟩:=aS HBK.out;generalize tmE b x.term=et at HTT HQ3;clear hr;by_cases he:et=0
     ·subst he;have HF:Hid (R=bksE b (b.blocks.drop (k+1))):=aF (by rw [HQ3.out];rfl);clear HQ3;go_wp2_with (go_at_call 56;refine (HTT.out _ HB5.out).mono ?_;rintro e' w5 ⟨rfl,hb5⟩;have HB7:=aF (HB5.out.trans (hb5.mono HB5.out.size));have HC7:=aF (cN HCC.out hb5);have hsz7:=hb5.size;clear hb5)
      go_roundg (b.blocks.length - (k+1))
      case measure=>omega
      case rel=>exact ⟨k+1,rfl,by omega,by go_num,HC7,HB7,by omega,HF⟩
     ·have HF:Hid (R=et):=aF (by rw [HQ3.out,aZ he]);have e1:(et != 0)=true:=by simp [he]
      clear HQ3 he;go_wp2_with (go_at_call 56;refine (HTT.out _ HB5.out).mono ?_;rintro e' w5 ⟨rfl,hb5⟩;have HB7:=aF (HB5.out.trans (hb5.mono HB5.out.size));clear hb5)
      go_ret;exact ⟨by rw [HF.out];rfl,HB7.out⟩
  ·have HF:Hid (R=0):=aF (by rw [hr.out,bE (by omega:b.blocks.length<=k)];rfl);clear hr;go_wp2_with fail
   go_ret;exact ⟨by rw [HF.out];rfl,HB3.out⟩
end
section
open Go Go.RowKit
theorem tQ {p:Int} {nr:Nat}:∀{xs:List Ln} {q:Option Ln},losE p nr q xs=0->∀l∈xs,okI nr l.reg/\0<=l.pt/\l.pt<p/\chk l.place.loc l.place.proj=0
 | [],_,_,l,hl=>by cases hl
 | x :: xs,q,h,l,hl=>by
   rw [qE] at h;split at h
   ·rename_i h0;rcases List.mem_cons.1 hl with rfl | hl
    ·unfold loE at h0;split at h0
     ·cases h0
     rename_i hr;split at h0
     ·rename_i hc;exact absurd h0 hc
     rename_i hc;exact ⟨⟨by omega,by omega⟩,by omega,by omega,Decidable.not_not.1 hc⟩
    ·exact tQ h l hl
   ·rename_i h0;exact absurd h h0
theorem iG {f s:Int}:∀{xs:List (Int × Int)} {q:Option (Int × Int)},prsE f s q xs=0->∀x∈xs,0<=x.1/\x.1<f/\0<=x.2/\x.2<s
 | [],_,_,l,hl=>by cases hl
 | x :: xs,q,h,l,hl=>by
   rw [pT] at h;split at h
   ·rename_i h0;rcases List.mem_cons.1 hl with rfl | hl
    ·unfold prE at h0;split at h0
     ·cases h0
     rename_i hr;omega
    ·exact iG h l hl
   ·rename_i h0;exact absurd h h0
structure OkFct (f:Fct) (p:Int) (nr:Nat):Prop where
 ln:∀l∈f.loans,okI nr l.reg/\0<=l.pt/\l.pt<p/\chk l.place.loc l.place.proj=0
 ed:∀x∈f.edges,0<=x.1/\x.1<p/\0<=x.2/\x.2<p
 ki:∀x∈f.killed,0<=x.1/\x.1<f.loans.length/\0<=x.2/\x.2<p
 iv:∀x∈f.inval,0<=x.1/\x.1<f.loans.length/\0<=x.2/\x.2<p
 li:∀x∈f.live,0<=x.1/\x.1<nr/\0<=x.2/\x.2<p
theorem xGD {f:Fct} {p:Int} {nr:Nat} (h:fctE f p nr=0):OkFct f p nr:=by
 unfold fctE at h;split at h
 ·cases h
 split at h
 ·exact absurd h ‹_›
 rename_i h1;split at h
 ·exact absurd h ‹_›
 rename_i h2;split at h
 ·exact absurd h ‹_›
 rename_i h3;split at h
 ·exact absurd h ‹_›
 rename_i h4;exact ⟨tQ (Decidable.not_not.1 h1),iG (Decidable.not_not.1 h2),iG (Decidable.not_not.1 h3),iG (Decidable.not_not.1 h4),iG h⟩
end
end Go.Proofs.YtmknfbfppmkcfaaGreatDoor
