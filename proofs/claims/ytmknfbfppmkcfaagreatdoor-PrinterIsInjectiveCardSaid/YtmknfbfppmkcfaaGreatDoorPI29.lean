/-
  Parts of the proof: Y52 Y54 Y55 Y60.
-/
import Derived.Test.YtmknfbfppmkcfaaGreatDoorPI0
import Derived.Test.YtmknfbfppmkcfaaGreatDoorPI21
import Derived.Test.YtmknfbfppmkcfaaGreatDoorPI27
import Derived.Test.YtmknfbfppmkcfaaGreatDoorPI22
import Derived.Test.YtmknfbfppmkcfaaGreatDoorPI15
import Derived.Test.YtmknfbfppmkcfaaGreatDoorPI20
import Derived.Test.YtmknfbfppmkcfaaGreatDoorPI28
import Derived.Test.YtmknfbfppmkcfaaGreatDoorPI10
import Derived.Test.YtmknfbfppmkcfaaGreatDoorPI14
import Derived.Lib.ItoaLen
namespace Go.Proofs.YtmknfbfppmkcfaaGreatDoor
set_option maxRecDepth 100000
set_option maxHeartbeats 16000000
section
open Go Go.RowKit
theorem nJ {n:ByteArray} (h:isIdent n=true):(bl n).length<=255:=by
 unfold isIdent at h;unfold bl;generalize n.data.toList=l at h;cases l with
 | nil=>simp
 | cons c r=>
   simp only [lX,bQ,decide_eq_true_eq] at h;simp only [bK];omega
theorem xO {rs:List ByteArray} (h:∀r∈rs,isIdent r=true) (i:Int):(rgP rs i).length<=255:=by
 unfold rgP;cases e:rs[i.toNat]? with
 | none=>simp
 | some x=>exact nJ (h x (List.mem_of_getElem? e))
theorem xDW {ls:List Lc} (h:∀l∈ls,isIdent l.name=true) (i:Int):(nmP ls i).length<=255:=by
 unfold nmP;cases e:ls[i.toNat]? with
 | none=>simp
 | some x=>exact nJ (h x (List.mem_of_getElem? e))
theorem yY {n:Int} (h:fitN n):(Lib.itoa n).length<=21:=Lib.itoa_length_le n h.1 h.2
theorem nI {c:UInt8} {n:Int} (h:fitN n):(idxP c n).length<=22:=by
 have:=yY h;unfold idxP;rw [bK];omega
theorem lZ {α : Type} {f : α -> List UInt8} {k:Nat}:∀{l:List α},(∀x∈l,(f x).length<=k)->(l.flatMap f).length<=k * l.length
 | [],_=>by simp
 | x :: l,h=>by
   have h1:=h x (by simp);have h2:=lZ (l:=l) (fun y hy=>h y (by simp [hy]));rw [List.flatMap_cons,bB,bK,Nat.mul_add];omega
theorem oH {α : Type} {f:Nat-> α -> List UInt8} {k n:Nat}:∀{l:List α} {i:Nat},i+l.length<=n->(∀x∈l,∀j,j<n->(f j x).length<=k)->(numP f i l).length<=k * l.length
 | [],_,_,_=>by simp [numP]
 | x :: l,i,hn,h=>by
   rw [bK] at hn;have h1:=h x (by simp) i (by omega);have h2:=oH (l:=l) (i:=i+1) (by omega) (fun y hy=>h y (by simp [hy]));rw [dR,bB,bK,Nat.mul_add];omega
theorem sN {k:Nat}:∀{l:List (List UInt8)},(∀x∈l,x.length<=k)->(tailP l).length<=(k+2) * l.length
 | [],_=>by simp [tailP]
 | y :: l,h=>by
   have h1:=h y (by simp);have h2:=sN (l:=l) (fun z hz=>h z (by simp [hz]));rw [show tailP (y :: l)=44 :: 32 :: comP (y :: l) from rfl,gS];simp only [bK,bB,Nat.mul_add];omega
theorem oU {k:Nat} {l:List (List UInt8)} (h:∀x∈l,x.length<=k):(comP l).length<=(k+2) * l.length:=by
 cases l with
 | nil=>simp [oS]
 | cons x l=>
   have h1:=h x (by simp);have h2:=sN (l:=l) (fun y hy=>h y (by simp [hy]));rw [gS,bB,bK,Nat.mul_add];omega
theorem xFN {ps:List Pj} (hf:∀x∈ps,fitJ x):(pjsP ps).length<=22 * ps.length:=
 lZ (fun x hx=>by
  have:=Lib.itoa_length_le x.field (hf x hx).1 (hf x hx).2;unfold pjP;split
  ·simp
  ·rw [bK];omega)
theorem tA {ls:List Lc} {p:Plc} (hl:∀l∈ls,isIdent l.name=true) (hp:p.proj.length<=32) (hf:∀x∈p.proj,fitJ x):(placeP ls p).length<=960:=by
 have h1:=xDW hl p.loc;have h2:=xFN hf;unfold placeP;rw [bK,bB];omega
theorem xHV {ls:List Lc} {o:Opd} (hl:∀l∈ls,isIdent l.name=true) (ho:OkOp ls o) (hf:FitO o):(opdP ls o).length<=970:=by
 have h1:=tA hl ho.len hf.pj;have h2:=Lib.itoa_length_le o.n hf.n.1 hf.n.2;unfold opdP boolP unitP;split
 ·simp only [bB,bK,bP];omega
 split
 ·simp only [bB,bK,bP];omega
 split
 ·omega
 split
 ·split <;> simp
 ·simp
theorem yF {ls:List Lc} {l:List Opd} {k:Nat} (hl:∀l∈ls,isIdent l.name=true) (ho:∀o∈l,OkOp ls o) (hf:∀o∈l,FitO o) (hk:l.length<=k):(opsP ls l).length<=972 * k:=by
 have h:=oU (k:=970) (l:=l.map (opdP ls)) (fun x hx=>by
  obtain ⟨o,hm,rfl⟩:=List.mem_map.1 hx
  exact xHV hl (ho o hm) (hf o hm))
 rw [cF] at h;unfold opsP;omega
theorem xDR {rs:List ByteArray} {r:Int} {m:Bool} {t:List UInt8} (h:∀r∈rs,isIdent r=true):(refP rs r m t).length<=262+t.length:=by
 have h1:=xO h r;unfold refP;cases m <;> simp only [bB,bK,bP,if_true,if_false,Bool.false_eq_true] <;> omega
theorem xHJ {ls:List Lc} {rs:List ByteArray} {r:Rvl} {k:Nat} (hl:∀l∈ls,isIdent l.name=true) (hr:∀r∈rs,isIdent r=true) (ho:OkRv ls rs r) (hp:r.place.proj.length<=32) (hf:FitR r) (hk:r.args.length<=k):(rvP ls rs r).length<=972 * k+1300:=by
 have h1:=yF hl ho.args hf.args hk;have h2:=xDR (rs:=rs) (r:=r.reg) (m:=r.mu) (t:=placeP ls r.place) hr;have h3:=tA hl hp hf.pj;unfold rvP;split
 ·omega
 split
 ·unfold unaP;split <;> simp only [bB,bK,bP] <;> omega
 split
 ·unfold binP;repeat' split
  all_goals simp only [bB,bK,bP];omega
 split
 ·simp only [bB,bK,bP];omega
 ·omega
theorem xHG {ls:List Lc} {rs:List ByteArray} {s:Stm} {k:Nat} (hl:∀l∈ls,isIdent l.name=true) (hr:∀r∈rs,isIdent r=true) (ho:OkSt ls rs s) (hp:s.place.proj.length<=32) (hq:s.rv.place.proj.length<=32) (hf:FitS s) (hk:s.rv.args.length<=k):(dO ls rs s).length<=972 * k+3000:=by
 have h3:=tA hl hp hf.pj;have h4:=xDW hl s.loc;unfold dO stmtP semP;split
 ·rename_i h0;have h1:=xHJ hl hr (ho.asg h0).2.2 hq hf.rv hk;simp only [bB,bK,bP];omega
 split
 ·simp only [bB,bK,bP];omega
 ·simp only [bB,bK,bP];omega
theorem xDP {l:List Int} (h:∀x∈l,fitN x) (i:Nat):(tgP l i).length<=22:=by
 unfold tgP;refine nI ?_;rw [List.getD_eq_getElem?_getD];cases e:l[i]? with
 | none=>exact ⟨by simp,by simp⟩
 | some x=>exact h x (List.mem_of_getElem? e)
theorem xHB {ls:List Lc} {t:Trm} (hl:∀l∈ls,isIdent l.name=true) (ho:OkTm ls t) (hp:t.place.proj.length<=32) (hf:FitTm t) (hk:t.args.length<=1000000):(termP ls t).length<=972003000:=by
 have h1:=yF hl ho.args hf.args hk;have h2:=xDP hf.tg 0;have h3:=xDP hf.tg 1;have h4:=tA hl hp hf.pj;unfold termP;split
 ·simp only [bB,bK,bP];omega
 split
 ·simp only [bB,bK,bP];omega
 split
 ·simp
 split
 ·rename_i h5;have h6:=nJ (ho.call h5);simp only [bB,bK,bP];omega
 split
 ·simp only [bB,bK,bP];omega
 ·simp
theorem xGZ {rs:List ByteArray} {t:Ty} (hr:∀r∈rs,isIdent r=true) (hf:FitT t) (hk:t.flds.length<=65535):(typeP rs t).length<=2000000:=by
 have h1:=xDR (rs:=rs) (r:=t.reg) (m:=t.mu) (t:=idxP 35 t.elem) hr;have h2:=nI (c:=35) hf.elem
 have h3:=oU (k:=22) (l:=t.flds.map (idxP 35)) (fun x hx=>by
  obtain ⟨o,hm,rfl⟩:=List.mem_map.1 hx
  exact nI (hf.flds o hm))
 rw [cF] at h3;unfold typeP unitP;split
 ·simp
 split
 ·simp
 split
 ·simp
 split
 ·omega
 ·simp only [bB,bK,bP];omega
theorem yL {x:Nat}:∀{l:List Nat},x∈l->x<=l.sum
 | [],h=>by cases h
 | y :: l,h=>by
   rw [List.sum_cons];rcases List.mem_cons.1 h with rfl | h
   ·omega
   ·have:=yL h;omega
theorem xIC {b:Bdy} (h:namesZ b<=3000):∀t∈b.types,t.flds.length<=3000:=fun t ht=>by
 have h1:1+min t.flds.length 9000<=tyZ b.types:=by
  unfold tyZ;exact yL (List.mem_map.2 ⟨t,ht,rfl⟩)
 unfold namesZ at h;omega
theorem pU {b:Bdy} (hc:chkB b=0) (hf:FitB b) (hs:NotSkip b):(printP b).length<=100000000000000:=by
 have D:=dS (ychk hc).1;have O:=qB hc;have hz:=xIC (hs.nm (qQ hc));have hr:=O.rs.all;have hl:=O.ls.all;have hb:=(ychk hc).2;have e0:=nJ O.name
 have e1:(regsP b.regions).length<=20000000:=by
  have h:=oU (k:=256) (l:=b.regions.map (fun r=>39 :: bl r)) (fun x hx=>by
   obtain ⟨o,hm,rfl⟩:=List.mem_map.1 hx;have:=nJ (hr o hm)
   rw [bK];omega)
  rw [cF] at h;have:=D.nreg;unfold regsP semP;split
  ·simp
  ·simp only [bB,bK,bP];omega
 have e2:(outsP b.regions b.outl).length<=40000000:=by
  have h:=oU (k:=513) (l:=b.outl.map (outP b.regions)) (fun x hx=>by
   obtain ⟨o,hm,rfl⟩:=List.mem_map.1 hx;have h1:=xO hr o.1;have h2:=xO hr o.2;unfold outP
   simp only [bB,bK,bP];omega)
  rw [cF] at h;have:=D.nout;unfold outsP semP;split
  ·simp
  ·simp only [bB,bK,bP];omega
 have e3:=oH (f:=gU b.regions) (k:=2000100) (n:=65535) (l:=b.types) (i:=0) (by have:=D.ntyp;omega) (fun x hx j hj=>by
  have h1:=xGZ hr (hf.ty x hx) (by have:=hz x hx;omega);have h2:=nI (c:=35) (n:=(j:Int)) ⟨by omega,by omega⟩;unfold gU semP
  simp only [bB,bK,bP];omega)
 have e4:=oH (f:=lcLine b.args) (k:=400) (n:=65535) (l:=b.locals) (i:=0) (by have:=D.nloc;omega) (fun x hx j hj=>by
  have h1:=nJ (hl x hx);have h2:=nI (c:=35) (hf.lc x hx);unfold lcLine semP wordP
  split <;> simp only [bB,bK,bP] <;> omega)
 have e5:=oH (f:=fH b.locals b.regions) (k:=300000000000) (n:=200) (l:=b.blocks) (i:=0) (by have:=hs.blk;omega) (fun x hx j hj=>by
  obtain ⟨p1,p2,p3⟩:=uF (sC hb x hx)
  have h1:=lZ (f:=dO b.locals b.regions) (k:=2919000) (l:=x.stmts) (fun s hs'=>by
   have hst:=qY p2 s hs';have hp:=xD hst;have:=xHG (k:=3000) hl hr (oG D.okay hst) hp.1 hp.2 (hf.st x hx s hs') (pM 3000 (by omega) D.okay hz hst)
   omega)
  have h2:=xHB hl (oF p3) (sK p3).2.1 (hf.tm x hx) (nP p3);have h3:=nI (c:=94) (n:=(j:Int)) ⟨by omega,by omega⟩;unfold fH semP;simp only [bB,bK,bP]
  omega)
 have n1:=D.ntyp;have n2:=D.nloc;have n3:=hs.blk;unfold printP headP;simp only [bB,bK,bP];omega
end
section
open Go Go.RowKit
attribute [local irreducible] Calls
theorem ind1:ind 1=[32,32]:=rfl
theorem wY {α : Type} {f : α -> List UInt8} {l:List α} {k:Nat} (h:k<l.length):(l.take (k+1)).flatMap f=(l.take k).flatMap f ++ f l[k]:=by
 rw [bF h,List.flatMap_append];simp
theorem pG {α : Type} (f : α -> List UInt8) (l:List α) (k:Nat):((l.take k).flatMap f).length<=(l.flatMap f).length:=by
 conv=>rhs;rw [<- List.take_append_drop k l,List.flatMap_append,bB]
 omega
theorem gQ (n:Int) (h:fitN n) (w:World) (ht:PowTab w):Calls Tryz.prog 34 #[.string ⟨#[]⟩,.int .i64 n] w fun e' w'=>e' = .returned (tx (Lib.itoa n))/\Below w.heap.size w w':=by
 have:=index_any' [] n h.1 h.2 (by simp) w ht;simpa using this
theorem jW {w0 w:World} {g q:Nat} {b:Bdy} {bh:BH} {bs:List UInt8} (wd:List UInt8) (hwd:wd.length<=10) (l:List (Int × Int)) (A:Option Addr) (c:Nat) (L:Lives w0 (g+2) g b bh bs 1 w)
 (hq:w.heap[q]?=some (.cells [Value.pointer (some ⟨g,0,none⟩)].toArray 66 (0,0))) (hqg:g≠q) (hl:Slc 2 RPr w0 A c l) (hf:∀x∈l,fitN x.1/\fitN x.2) (hz:bs.length+(l.flatMap (prLine wd)).length+1000<=140737488355328):
 Calls Tryz.prog 49 #[tx wd,.slice A l.length c,.pointer (some ⟨q,0,none⟩)] w fun e' w'=>e' = .returned (.tuple #[])/\Lives w0 (g+2) g b bh (bs ++ l.flatMap (prLine wd)) 1 w'/\Fr g w w':=by
 have HL:=aF L;have HQ:=aF hq;have HS:=aF hl;have HF:=aF hf;have HZ:=aF hz;have hle:=hl.le;have hbig:=hl.big;clear L hq hl hf hz;go_enter Tryz.func49,Tryz.ntmps49
 go_wp2_with fail
 go_loopw [9] (fun i wr=>∃k:Nat,k<=l.length/\i = .int .i64 k/\Hid (Lives w0 (g+2) g b bh (bs ++ (l.take k).flatMap (prLine wd)) 1 wr)/\Hid (Fr g w wr)) (fun i _=>l.length - (intOf i).toNat)
 case atStart=>exact ⟨0,by omega,rfl,by simpa using HL,aF (Fr.refl _ _)⟩
 case round=>
  clear HL;obtain ⟨k,hk,rfl,HL,HFR⟩:=hrel;by_cases hlt:k<l.length
  case neg=>
   obtain rfl:k=l.length:=by omega
   rw [cA] at HL;go_wp2_with fail
   go_end0
   exact ⟨rfl,HL.out,HFR.out⟩
  case pos=>
  obtain ⟨bb,oo,rfl,hbb,hx⟩:=(HS.out.keep RPr.keeps HL.out.low).sl.at_ hlt;have hfx:=HF.out _ (bN hlt);have HTF:=aF (wY (f:=prLine wd) hlt);have hzl:=pG (prLine wd) l (k+1);have hpc:=heap_fr HQ.out HFR.out hqg (by decide);have HPC:=aF hpc;have yq:=cW hpc 0 _ rfl;have hqs:q<wr.heap.size:=cD wr _ yq;generalize l[k]=x at *;obtain ⟨x1,x2⟩:=x;obtain ⟨y0,y1⟩:=hx;simp only at y0 y1 hfx;obtain ⟨i1,h1⟩:∃i,Lib.itoa x1=i:=⟨_,rfl⟩;obtain ⟨i2,h2⟩:∃i,Lib.itoa x2=i:=⟨_,rfl⟩;have HLN:Hid (prLine wd (x1,x2)=ind 1 ++ ((wd ++ [32] ++ i1 ++ [32] ++ i2) ++ [59,10])):=aF (by rw [ind1,prLine,prP];simp only;rw [h1,h2,semP];simp);have hl1:=yY hfx.1;have hl2:=yY hfx.2;rw [h1] at hl1;rw [h2] at hl2;rw [HTF.out,bB] at hzl;have hz1:(bs ++ (l.take k).flatMap (prLine wd)).length+500<=140737488355328:=by rw [bB];have:=HZ.out;omega
  have hz2:¬(9223372036854775807<i2.length+1):=by omega
  have HI1:Hid (∀W,Below w0.heap.size w0 W->Calls Tryz.prog 34 #[.string ⟨#[]⟩,.int .i64 x1] W fun e' w'=>e' = .returned (tx i1)/\Below W.heap.size W w'):=aF (fun W hb=>by rw [<- h1];exact gQ x1 hfx.1 W (HL.out.pow.keep hb));have HI2:Hid (∀W,Below w0.heap.size w0 W->Calls Tryz.prog 34 #[.string ⟨#[]⟩,.int .i64 x2] W fun e' w'=>e' = .returned (tx i2)/\Below W.heap.size W w'):=aF (fun W hb=>by rw [<- h2];exact gQ x2 hfx.2 W (HL.out.pow.keep hb));obtain ⟨bk,hbk⟩:∃B,bs ++ (l.take k).flatMap (prLine wd)=B:=⟨_,rfl⟩;have HNX:Hid (bs ++ (l.take (k+1)).flatMap (prLine wd)=bk ++ (ind 1 ++ ((wd ++ [32] ++ i1 ++ [32] ++ i2) ++ [59,10]))):=aF (by rw [HTF.out,<- bM,hbk,HLN.out]);rw [hbk] at HL hz1;clear hpc h1 h2 hfx hzl HTF HLN hbk;obtain ⟨WN,hWN⟩:∃W,wr.alloc (.cells #[.int .i64 x1,.int .i64 x2] 77)=W:=⟨_,rfl⟩;have hbn:Below wr.heap.size wr WN:=by rw [<- hWN];exact (aX _ _).alloc (aY _) _
  obtain ⟨n0,n1⟩:=sJ wr (.int .i64 x1) (.int .i64 x2) 77;rw [hWN] at n0 n1;have HLD:=aF (HL.out.keep hbn.drew);have HFD:Hid (Fr g w WN.drew):=aF (HFR.out.trans (Fr.of_below hbn.drew));have HQD:Hid (WN.drew.heap[q]?=_):=aF (cR HPC.out hbn.drew);have hS:WN.drew.cell? ⟨q,0,none⟩=some (.pointer (some ⟨g,0,none⟩))/\WN.drew.cell? ⟨wr.heap.size,0,none⟩=some (.int .i64 x1)/\WN.drew.cell? ⟨wr.heap.size,1,none⟩=some (.int .i64 x2):=⟨cW HQD.out 0 _ rfl,n0,n1⟩;clear hbn;go_wp2_with fail
  clear n0 n1;refine dT (S:=fun X=>X.cell? ⟨q,0,none⟩=some (.pointer (some ⟨g,0,none⟩))/\X.cell? ⟨wr.heap.size,0,none⟩=some (.int .i64 x1)/\X.cell? ⟨wr.heap.size,1,none⟩=some (.int .i64 x2)) 10 [0,1,2,3,5,6,4,7,8,9,10] (by kernel_rfl) ?_;(iterate 6 (refine eI (v:=?_) (by kernel_rfl) (fun _ _ _ h=>h) (Or.inl ⟨by rfl,?_⟩) hS ?_;rotate_left;(next=>(rintro X ⟨s1,s2,s3⟩;(try simp only [aI]);go_simp;rfl));simp only [aM]));(refine cS (fun K1 hK1=>?_);simp only [aM];rw [bA (by rfl)];go_simp);refine (HI1.out _ HLD.out.low).mono ?_;rintro e' w3 ⟨rfl,hw3⟩;have hS3:w3.cell? ⟨q,0,none⟩=some (.pointer (some ⟨g,0,none⟩))/\w3.cell? ⟨wr.heap.size,0,none⟩=some (.int .i64 x1)/\w3.cell? ⟨wr.heap.size,1,none⟩=some (.int .i64 x2):=⟨cM hw3 hS.1,cM hw3 hS.2.1,cM hw3 hS.2.2⟩;have HL3:=aF (HLD.out.keep hw3);have HF3:=aF (HFD.out.trans (Fr.of_below hw3));clear hS hw3 HLD HFD HQD;refine hK1.out _ _ (fun _=>hS3) ?_;clear hK1;(refine cS (fun K1 hK1=>?_);simp only [aM];rw [bA (by rfl)];go_simp);refine (HI2.out _ HL3.out.low).mono ?_;rintro e' w4 ⟨rfl,hw4⟩;have hS:w4.cell? ⟨q,0,none⟩=some (.pointer (some ⟨g,0,none⟩))/\w4.cell? ⟨wr.heap.size,0,none⟩=some (.int .i64 x1)/\w4.cell? ⟨wr.heap.size,1,none⟩=some (.int .i64 x2):=⟨cM hw4 hS3.1,cM hw4 hS3.2.1,cM hw4 hS3.2.2⟩;have HL4:=aF (HL3.out.keep hw4);have HF4:=aF (HF3.out.trans (Fr.of_below hw4));clear hS3 hw4 HL3 HF3;refine hK1.out _ _ (fun _=>hS) ?_;clear hK1;refine eI (v:=tx (i2 ++ [59])) (by kernel_rfl) (fun _ _ _ h=>h) (Or.inl ⟨by rfl,?_⟩) hS ?_
  ·rintro X hX;(try simp only [aI]);go_simp;exact (ba_app' _ _).trans (by simp [bl])
  (simp only [aM]);(refine cS (fun K1 hK1=>?_);simp only [aM];rw [bA (by rfl)];go_simp);have hbw:=(aX w4.heap.size w4).alloc (aY _) (.cells #[tx wd,tx i1,tx (i2 ++ [59])] 9);have HLR:=aF (HL4.out.keep hbw);have HFR2:=aF (HF4.out.trans (Fr.of_below hbw));have hS5:=bJ (cM hbw hS.1) (bJ (cM hbw hS.2.1) (cM hbw hS.2.2));refine hK1.out _ _ (fun _=>hS5) ?_;clear hK1 hbw;(refine cS (fun K1 hK1=>?_);simp only [aM];rw [bA (by rfl)];go_simp);refine (eA HLR.out [wd,i1,i2 ++ [59]] (wd ++ [32] ++ i1 ++ [32] ++ i2) _ (dU w4 [wd,i1,i2 ++ [59]]) (by rw [join3];simp) (by decide) (by simp) (by simp only [bB,bK,bP];omega)).mono ?_;rintro e' w9 ⟨rfl,hl9,hf9⟩;have HL9:=aF hl9;have HF9:=aF (HFR2.out.trans hf9);refine hK1.out _ _ (fun h=>absurd h (by decide)) ?_;refine cZ ?_;clear hl9 hf9 hK1;go_wp2_with fail
  go_roundw
  case rel=>exact ⟨k+1,by omega,by go_num,by rw [HNX.out];exact HL9,HF9⟩
  case measure=>simp [intOf];omega
end
section
open Go Go.RowKit
def sR5 (b:Bdy) (f:Fct) (k:Nat):List UInt8:=(f.live.drop k).flatMap (tO b.regions) ++ [125,10]
def sR4 (b:Bdy) (f:Fct):List UInt8:=f.inval.flatMap (prLine wInv) ++ sR5 b f 0
def sR3 (b:Bdy) (f:Fct):List UInt8:=f.killed.flatMap (prLine wKill) ++ sR4 b f
def sR2 (b:Bdy) (f:Fct):List UInt8:=f.edges.flatMap (prLine wEdge) ++ sR3 b f
def sR1 (b:Bdy) (f:Fct) (k:Nat):List UInt8:=(f.loans.drop k).flatMap (tR b.locals b.regions) ++ sR2 b f
theorem xFO (b:Bdy) (f:Fct):printF b f=headP wFacts b ++ sR1 b f 0:=by
 simp [printF,sR1,sR2,sR3,sR4,sR5]
theorem xBP {b:Bdy} {f:Fct} {k:Nat} (h:k<f.loans.length):sR1 b f k=tR b.locals b.regions f.loans[k] ++ sR1 b f (k+1):=by
 unfold sR1;rw [cV h,List.flatMap_cons,bM]
theorem xEV {b:Bdy} {f:Fct} {k:Nat} (h:f.loans.length<=k):sR1 b f k=sR2 b f:=by unfold sR1;rw [bE h];rfl
theorem xBO {b:Bdy} {f:Fct} {k:Nat} (h:k<f.live.length):sR5 b f k=tO b.regions f.live[k] ++ sR5 b f (k+1):=by
 unfold sR5;rw [cV h,List.flatMap_cons,bM]
theorem xEU {b:Bdy} {f:Fct} {k:Nat} (h:f.live.length<=k):sR5 b f k=[125,10]:=by unfold sR5;rw [bE h];rfl
structure FitF (f:Fct):Prop where
 pt:∀l∈f.loans,fitN l.pt
 pj:∀l∈f.loans,∀x∈l.place.proj,fitJ x
 ed:∀x∈f.edges,fitN x.1/\fitN x.2
 ki:∀x∈f.killed,fitN x.1/\fitN x.2
 iv:∀x∈f.inval,fitN x.1/\fitN x.2
 li:∀x∈f.live,fitN x.1/\fitN x.2
structure PF (w0:World) (n g:Nat) (b:Bdy) (bh:BH) (f:Fct) (fh:FH) (bs:List UInt8) (d:Nat) (W:World):Prop where
 P:PW w0 n g b bh bs d W
 fc:W.heap[n+1]?=some (.cells (fcC f fh).toArray 39 (0,0))
 nf:n+1<g
theorem PF.keep {w0:World} {n g:Nat} {b:Bdy} {bh:BH} {f:Fct} {fh:FH} {bs:List UInt8} {d:Nat} {W W':World} (H:PF w0 n g b bh f fh bs d W) (hb:Below W.heap.size W W'):PF w0 n g b bh f fh bs d W':=
 ⟨H.P.keep hb,cR H.fc hb,H.nf⟩
theorem PF.fr {w0:World} {n g:Nat} {b:Bdy} {bh:BH} {f:Fct} {fh:FH} {bs bs':List UInt8} {d d':Nat} {W W':World} (H:PF w0 n g b bh f fh bs d W) (L:Lives w0 (g+2) g b bh bs' d' W') (hf:Fr g W W'):PF w0 n g b bh f fh bs' d' W':=
 ⟨H.P.fr L hf,heap_fr H.fc hf (by have:=H.nf;omega) (by decide),H.nf⟩
theorem PF.cells {w0:World} {n g:Nat} {b:Bdy} {bh:BH} {f:Fct} {fh:FH} {bs:List UInt8} {d:Nat} {W:World} (H:PF w0 n g b bh f fh bs d W):
 (aA (bdC b bh) W n)/\(aA (fcC f fh) W (n+1))/\W.cell? ⟨g+1,0,none⟩=some (.pointer (some ⟨g,0,none⟩)):=
 ⟨cW H.P.bd,cW H.fc,cW H.P.pc 0 _ rfl⟩
theorem rM {b:Bdy} {f:Fct} (h:¬okF b f):pfR b f=([],16):=by unfold pfR;rw [aZ h]
theorem xDU {b:Bdy} {f:Fct} (h:okF b f):pfR b f=(printF b f,0):=by unfold pfR;rw [bA h]
theorem xAW (t:List UInt8):Lib.trimPrefix (38 :: t) [38]=t:=by simp [Lib.trimPrefix,Lib.hasPrefix]
theorem qO {b:Bdy} (h:chkB b=0):cntP b.blocks<=4611686018427387904/\b.blocks.length<=1000000:=by
 have D:=dS (oV h);have S:=qQ h;have h1:=xGQ (l:=b.blocks) (m:=65535) (fun x hx=>(S.blks x hx).1);have h2:=D.nblk.2;exact ⟨by omega,by omega⟩
end
section
open Go Go.ChangeShapes Go.WideShapes Go.ChangeAt Go.RowKit Go.Joins Go.Deep
section
variable {H:Type} (enc:TypeId × Value->H) (w:World) (base:Nat) (spare:Nat->Bool) (held:Bool)
def Opn {α : Type} (t:TypeId) (k:Nat) (R:Rd α):Prop:=∀(b o n:Nat) (cs:List Value) (y:DataW H × List MemPlace),cs.length=k->(∀j,j<k->w.cell? ⟨b,o+j,none⟩=cs[j]?)->DataW.trod enc Tryz.prog w base spare held n t cs=some y->∃z,R w w.heap.size b o z
end
section
variable {H:Type} {enc:TypeId × Value->H} {w:World} {base:Nat} {spare:Nat->Bool} {held:Bool}
def RNZ:Rd ByteArray:=fun w B b o x=>RN w B b o x/\x.size<=9223372036854775807
def RBool:Rd Bool:=fun w _ b o x=>w.cell? ⟨b,o,none⟩=some (.bool x)
def RZ {α : Type} (R:Rd α) (G : α -> Prop):Rd α := fun w B b o x=>R w B b o x/\G x
theorem xDO {z:Int} (h:(Lit.int .i64 z).wf=true):fitN z:=by
 simp [Lit.wf,IntKind.min,IntKind.max,IntKind.signed,IntKind.bits] at h;exact ⟨by omega,by omega⟩
theorem dV:Opn enc w base spare held 3 1 (RZ RInt fitN):=fun b o n cs y hl hc h=>by
 obtain ⟨z,rfl,_,hw⟩:=DataW.trod_int (k:= .i64) Tryz.underlying3 h;exact ⟨z,hc 0 (by omega),xDO hw⟩
theorem xFR:Opn enc w base spare held 2 1 (RZ RInt fitN):=fun b o n cs y hl hc h=>by
 obtain ⟨z,rfl,_,hw⟩:=DataW.trod_int (k:= .i64) Tryz.underlying2 h;exact ⟨z,hc 0 (by omega),xDO hw⟩
theorem iX {α : Type} {k:Nat} {R:Rd α} {G : α -> Prop} {w:World} {B b o:Nat} {xs:List α} (h:RSl k (RZ R G) w B b o xs):RSl k R w B b o xs/\∀x∈xs,G x:=by
 obtain ⟨A,c,h1,h2,h3,h4⟩:=h;refine ⟨⟨A,c,h1,h2,h3,fun hx=>?_⟩,fun x hx=>?_⟩
 ·obtain ⟨b,o,e,hb,g⟩:=h4 hx;exact ⟨b,o,e,hb,fun i x hi=>(g i x hi).1⟩
 ·obtain ⟨i,hi,rfl⟩:=List.mem_iff_getElem.1 hx;obtain ⟨b,o,e,hb,g⟩:=h4 (by omega);exact (g i _ (bD hi)).2
theorem tF:Opn enc w base spare held 4 1 RBool:=fun b o n cs y hl hc h=>by
 obtain ⟨z,rfl,_⟩:=DataW.trod_bool Tryz.underlying4 h;exact ⟨z,hc 0 (by omega)⟩
theorem rO:Opn enc w base spare held 9 1 RNZ:=fun b o n cs y hl hc h=>by
 obtain ⟨z,rfl,_,hz⟩:=DataW.trod_string Tryz.underlying9 h;exact ⟨z,hc 0 (by omega),by unfold maxLen at hz;omega⟩
theorem nE {α : Type} {R:Rd α} {t e:TypeId} {k:Nat} (ht:Tryz.prog.underlying t=some (.slice e)) (hk:Tryz.prog.cellsOf e=k) (hk0:0<k) (hR:Opn enc w base spare held e k R):Opn enc w base spare held t 1 (RSl k R):=fun b o n cs y hl hc h=>by
 obtain ⟨A,c,xs,rfl,hs⟩:=yG ht hk hk0 h hR;exact ⟨xs,A,c,hc 0 (by omega),hs.le,hs.big,hs.sl⟩
theorem dC {α : Type} {R:Rd α} {e:TypeId} {fs:Array Field} {n K b o:Nat} {cs:List Value} {y:DataW H × List MemPlace} (he:Tryz.prog.underlying e=some (.struct fs)) (h:DataW.trod enc Tryz.prog w base spare held n e cs=some y) (hl:cs.length=K)
 (hc:∀j,j<K->w.cell? ⟨b,o+j,none⟩=cs[j]?) (j:Nat) {f:Field} (hf:fs[j]?=some f) (off k:Nat) (ho:f.offset=off) (hk:Tryz.prog.cellsOf f.type=k) (hok:off+k<=K) (hR:Opn enc w base spare held f.type k R):∃z,R w w.heap.size b (o+off) z:=by
 obtain ⟨ys,m,_,_,_,hyl,hfl⟩:=DataW.trod_struct he h;have hjl:j<fs.size:=(Array.getElem?_eq_some_iff.1 hf).1;have h1:=hfl j f hf;rw [ho,hk,bD (show j<ys.length by omega)] at h1;refine hR b (o+off) m _ _ (by simp;omega) (fun i hi=>?_) h1;rw [List.getElem?_take,bA hi,List.getElem?_drop,Nat.add_assoc];exact hc (off+i) (by omega)
theorem xHS:Opn enc w base spare held 102 2 (RZ RPj fitJ):=fun b o n cs y hl hc h=>by
 obtain ⟨x0,h0⟩:=dC (R:=RZ RInt fitN) Tryz.underlying102 h hl hc 0 rfl 0 1 rfl (by kernel_rfl) (by omega) dV;obtain ⟨x1,h1⟩:=dC (R:=RZ RInt fitN) Tryz.underlying102 h hl hc 1 rfl 1 1 rfl (by kernel_rfl) (by omega) dV;exact ⟨⟨x0,x1⟩,⟨h0.1,h1.1⟩,h1.2⟩
def FitP (p:Plc):Prop:=∀x∈p.proj,fitJ x
theorem tE:Opn enc w base spare held 46 2 (RZ RPl FitP):=fun b o n cs y hl hc h=>by
 obtain ⟨x0,h0⟩:=dC (R:=RZ RInt fitN) Tryz.underlying46 h hl hc 0 rfl 0 1 rfl (by kernel_rfl) (by omega) dV;obtain ⟨x1,h1⟩:=dC (R:=RSl 2 (RZ RPj fitJ)) Tryz.underlying46 h hl hc 1 rfl 1 1 rfl (by kernel_rfl) (by omega) (nE Tryz.underlying44 (by kernel_rfl) (by omega) xHS);obtain ⟨g1,g2⟩:=iX h1;exact ⟨⟨x0,x1⟩,⟨h0.1,g1⟩,g2⟩
theorem xDV:Opn enc w base spare held 160 4 (RZ ROp FitO):=fun b o n cs y hl hc h=>by
 obtain ⟨x0,h0⟩:=dC (R:=RZ RInt fitN) Tryz.underlying160 h hl hc 0 rfl 0 1 rfl (by kernel_rfl) (by omega) dV;obtain ⟨x1,h1⟩:=dC (R:=RZ RPl FitP) Tryz.underlying160 h hl hc 1 rfl 1 2 rfl (by kernel_rfl) (by omega) tE;obtain ⟨x2,h2⟩:=dC (R:=RZ RInt fitN) Tryz.underlying160 h hl hc 2 rfl 3 1 rfl (by kernel_rfl) (by omega) xFR;exact ⟨⟨x0,x1,x2⟩,⟨h0.1,h1.1,h2.1⟩,⟨h1.2,h2.2⟩⟩
theorem xHQ:Opn enc w base spare held 85 7 (RZ RRv FitR):=fun b o n cs y hl hc h=>by
 obtain ⟨x0,h0⟩:=dC (R:=RZ RInt fitN) Tryz.underlying85 h hl hc 0 rfl 0 1 rfl (by kernel_rfl) (by omega) dV;obtain ⟨x1,h1⟩:=dC (R:=RZ RInt fitN) Tryz.underlying85 h hl hc 1 rfl 1 1 rfl (by kernel_rfl) (by omega) dV;obtain ⟨x2,h2⟩:=dC (R:=RZ RInt fitN) Tryz.underlying85 h hl hc 2 rfl 2 1 rfl (by kernel_rfl) (by omega) dV;obtain ⟨x3,h3⟩:=dC (R:=RBool) Tryz.underlying85 h hl hc 3 rfl 3 1 rfl (by kernel_rfl) (by omega) tF;obtain ⟨x4,h4⟩:=dC (R:=RZ RPl FitP) Tryz.underlying85 h hl hc 4 rfl 4 2 rfl (by kernel_rfl) (by omega) tE;obtain ⟨x5,h5⟩:=dC (R:=RSl 4 (RZ ROp FitO)) Tryz.underlying85 h hl hc 5 rfl 6 1 rfl (by kernel_rfl) (by omega) (nE Tryz.underlying59 (by kernel_rfl) (by omega) xDV);obtain ⟨g1,g2⟩:=iX h5;exact ⟨⟨x0,x1,x2,x3,x4,x5⟩,⟨h0.1,h1.1,h2.1,h3,h4.1,g1⟩,⟨h4.2,g2⟩⟩
theorem xHP:Opn enc w base spare held 87 11 (RZ RSt FitS):=fun b o n cs y hl hc h=>by
 obtain ⟨x0,h0⟩:=dC (R:=RZ RInt fitN) Tryz.underlying87 h hl hc 0 rfl 0 1 rfl (by kernel_rfl) (by omega) dV;obtain ⟨x1,h1⟩:=dC (R:=RZ RPl FitP) Tryz.underlying87 h hl hc 1 rfl 1 2 rfl (by kernel_rfl) (by omega) tE;obtain ⟨x2,h2⟩:=dC (R:=RZ RRv FitR) Tryz.underlying87 h hl hc 2 rfl 3 7 rfl (by kernel_rfl) (by omega) xHQ;obtain ⟨x3,h3⟩:=dC (R:=RZ RInt fitN) Tryz.underlying87 h hl hc 3 rfl 10 1 rfl (by kernel_rfl) (by omega) dV;exact ⟨⟨x0,x1,x2,x3⟩,⟨h0.1,h1.1,h2.1,h3.1⟩,⟨h1.2,h2.2⟩⟩
def NmTm (x:Trm):Prop:=x.name.size<=9223372036854775807/\FitTm x
theorem xHO:Opn enc w base spare held 61 6 (RZ RTm NmTm):=fun b o n cs y hl hc h=>by
 obtain ⟨x0,h0⟩:=dC (R:=RZ RInt fitN) Tryz.underlying61 h hl hc 0 rfl 0 1 rfl (by kernel_rfl) (by omega) dV;obtain ⟨x1,h1⟩:=dC (R:=RSl 1 (RZ RInt fitN)) Tryz.underlying61 h hl hc 1 rfl 1 1 rfl (by kernel_rfl) (by omega) (nE Tryz.underlying58 (by kernel_rfl) (by omega) dV);obtain ⟨x2,h2⟩:=dC (R:=RSl 4 (RZ ROp FitO)) Tryz.underlying61 h hl hc 2 rfl 2 1 rfl (by kernel_rfl) (by omega) (nE Tryz.underlying59 (by kernel_rfl) (by omega) xDV);obtain ⟨x3,h3⟩:=dC (R:=RZ RPl FitP) Tryz.underlying61 h hl hc 3 rfl 3 2 rfl (by kernel_rfl) (by omega) tE;obtain ⟨x4,h4⟩:=dC (R:=RNZ) Tryz.underlying61 h hl hc 4 rfl 5 1 rfl (by kernel_rfl) (by omega) rO;obtain ⟨g1,g2⟩:=iX h1;obtain ⟨k1,k2⟩:=iX h2;exact ⟨⟨x0,x1,x2,x3,x4⟩,⟨h0.1,g1,k1,h3.1,h4.1⟩,h4.2,⟨h3.2,k2,g2⟩⟩
structure NmBk (x:Blk):Prop where
 nm:x.term.name.size<=9223372036854775807
 tm:FitTm x.term
 st:∀s∈x.stmts,FitS s
theorem xHU:Opn enc w base spare held 64 7 (RZ RBk NmBk):=fun b o n cs y hl hc h=>by
 obtain ⟨x0,h0⟩:=dC (R:=RSl 11 (RZ RSt FitS)) Tryz.underlying64 h hl hc 0 rfl 0 1 rfl (by kernel_rfl) (by omega) (nE Tryz.underlying62 (by kernel_rfl) (by omega) xHP);obtain ⟨x1,h1⟩:=dC (R:=RZ RTm NmTm) Tryz.underlying64 h hl hc 1 rfl 1 6 rfl (by kernel_rfl) (by omega) xHO;obtain ⟨g1,g2⟩:=iX h0;exact ⟨⟨x0,x1⟩,⟨g1,h1.1⟩,⟨h1.2.1,h1.2.2,g2⟩⟩
def NmLc (x:Lc):Prop:=x.name.size<=9223372036854775807/\fitN x.type
theorem xHT:Opn enc w base spare held 48 2 (RZ RLc NmLc):=fun b o n cs y hl hc h=>by
 obtain ⟨x0,h0⟩:=dC (R:=RNZ) Tryz.underlying48 h hl hc 0 rfl 0 1 rfl (by kernel_rfl) (by omega) rO;obtain ⟨x1,h1⟩:=dC (R:=RZ RInt fitN) Tryz.underlying48 h hl hc 1 rfl 1 1 rfl (by kernel_rfl) (by omega) dV;exact ⟨⟨x0,x1⟩,⟨h0.1,h1.1⟩,h0.2,h1.2⟩
theorem xHN:Opn enc w base spare held 81 5 (RZ RTy FitT):=fun b o n cs y hl hc h=>by
 obtain ⟨x0,h0⟩:=dC (R:=RZ RInt fitN) Tryz.underlying81 h hl hc 0 rfl 0 1 rfl (by kernel_rfl) (by omega) dV;obtain ⟨x1,h1⟩:=dC (R:=RBool) Tryz.underlying81 h hl hc 1 rfl 1 1 rfl (by kernel_rfl) (by omega) tF;obtain ⟨x2,h2⟩:=dC (R:=RZ RInt fitN) Tryz.underlying81 h hl hc 2 rfl 2 1 rfl (by kernel_rfl) (by omega) dV;obtain ⟨x3,h3⟩:=dC (R:=RZ RInt fitN) Tryz.underlying81 h hl hc 3 rfl 3 1 rfl (by kernel_rfl) (by omega) dV;obtain ⟨x4,h4⟩:=dC (R:=RSl 1 (RZ RInt fitN)) Tryz.underlying81 h hl hc 4 rfl 4 1 rfl (by kernel_rfl) (by omega) (nE Tryz.underlying58 (by kernel_rfl) (by omega) dV);obtain ⟨g1,g2⟩:=iX h4;exact ⟨⟨x0,x1,x2,x3,x4⟩,⟨h0.1,h1,h2.1,h3.1,g1⟩,⟨h3.2,g2⟩⟩
def FitPr (x:Int × Int):Prop:=fitN x.1/\fitN x.2
theorem xHR:Opn enc w base spare held 77 2 (RZ RPr FitPr):=fun b o n cs y hl hc h=>by
 obtain ⟨ys,m,_,_,_,hyl,hfl⟩:=DataW.trod_array Tryz.underlying77 h;have hk:Tryz.prog.cellsOf 3=1:=by kernel_rfl
 have g:∀i,i<2->∃z:Int,w.cell? ⟨b,o+i,none⟩=some (.int .i64 z)/\fitN z:=fun i hi=>by
  have h1:=hfl i hi;rw [hk,Nat.mul_one,bD (show i<ys.length by omega)] at h1
  obtain ⟨z,hz⟩:=dV b (o+i) m _ _ (by simp;omega) (fun j hj=>by
   obtain rfl:j=0:=by omega
   rw [Nat.add_zero,List.getElem?_take,bA (by omega),List.getElem?_drop]
   exact hc (i+0) (by omega)) h1
  exact ⟨z,hz⟩
 obtain ⟨z0,h0,f0⟩:=g 0 (by omega);obtain ⟨z1,h1,f1⟩:=g 1 (by omega);exact ⟨(z0,z1),⟨h0,h1⟩,⟨f0,f1⟩⟩
theorem lC {α : Type} {k:Nat} {R:Rd α} {G : α -> Prop} {A:Option Addr} {c:Nat} {xs:List α} (h:Slc k (RZ R G) w A c xs):Slc k R w A c xs/\∀x∈xs,G x:=by
 refine ⟨⟨fun hx=>?_,h.le,h.big⟩,fun x hx=>?_⟩
 ·obtain ⟨b,o,e,hb,g⟩:=h.sl hx;exact ⟨b,o,e,hb,fun i x hi=>(g i x hi).1⟩
 ·obtain ⟨i,hi,rfl⟩:=List.mem_iff_getElem.1 hx;obtain ⟨b,o,e,hb,g⟩:=h.sl (by omega);exact (g i _ (bD hi)).2
theorem pH {α : Type} {k:Nat} {R:Rd α} {t e:TypeId} {n:Nat} {v:Value} {y:DataW H × List MemPlace} (ht:Tryz.prog.underlying t=some (.slice e)) (hk:Tryz.prog.cellsOf e=k) (hk0:0<k) (hR:Opn enc w base spare held e k R)
 (h:DataW.trod enc Tryz.prog w base spare held n t [v]=some y):∃A c xs,v = .slice A (List.length xs) c/\Slc k R w A c xs:=by
 obtain ⟨A,c,xs,e,hs⟩:=yG ht hk hk0 h hR;exact ⟨A,c,xs,by simpa using e,hs⟩
theorem qA {r:Reach} {b0:Nat} {v:Value} {d:DataW H} {p:List MemPlace} (hv:Value.okWide Tryz.prog w r b0 28 v) (h:DataW.Trod enc Tryz.prog w base spare held 28 v d p):
 ∃b bh,v = .agg (bdC b bh).toArray/\BdAt w b bh/\NmOk b/\FitB b:=by
 obtain ⟨cs,rfl,hcs⟩:=okWide_struct Tryz.underlying28 hv;have hc7:cs.size=7:=hcs.trans (by kernel_rfl);obtain ⟨fuel,hf⟩:=h;have hl:(Value.agg cs).cells.toList.length=7:=by simpa [Value.cells] using hc7
 have hg:∀i:Nat,(Value.agg cs).cells.toList[i]?=cs[i]?:=fun i=>by simp only [Value.cells];exact Array.getElem?_toList ..
 have F:=fun (j:Nat) (f:Field) hj=>zH (j:=j) (f:=f) Tryz.underlying28 (by kernel_rfl) hf hl hj
 obtain ⟨v0,m0,y0,e0,g0⟩:=F 0 _ rfl;obtain ⟨v1,m1,y1,e1,g1⟩:=F 1 _ rfl;obtain ⟨v2,m2,y2,e2,g2⟩:=F 2 _ rfl;obtain ⟨v3,m3,y3,e3,g3⟩:=F 3 _ rfl;obtain ⟨v4,m4,y4,e4,g4⟩:=F 4 _ rfl;obtain ⟨v5,m5,y5,e5,g5⟩:=F 5 _ rfl;obtain ⟨v6,m6,y6,e6,g6⟩:=F 6 _ rfl;clear F;rw [hg] at e0 e1 e2 e3 e4 e5 e6;obtain ⟨nm,q0,_,hn⟩:=DataW.trod_string Tryz.underlying9 g0;obtain rfl:v0 = .string nm:=by simpa using q0
 obtain ⟨ar,q5,_,_⟩:=DataW.trod_int (k:= .i64) Tryz.underlying3 g5;obtain rfl:v5 = .int .i64 ar:=by simpa using q5
 obtain ⟨A1,c1,rg,rfl,s1⟩:=pH Tryz.underlying22 (by kernel_rfl) (by omega) rO g1;obtain ⟨A2,c2,ol,rfl,s2⟩:=pH Tryz.underlying23 (by kernel_rfl) (by omega) xHR g2;obtain ⟨A3,c3,ts,rfl,s3⟩:=pH Tryz.underlying24 (by kernel_rfl) (by omega) xHN g3;obtain ⟨A4,c4,ls,rfl,s4⟩:=pH Tryz.underlying25 (by kernel_rfl) (by omega) xHT g4;obtain ⟨A5,c5,bs,rfl,s5⟩:=pH Tryz.underlying26 (by kernel_rfl) (by omega) xHU g6;obtain ⟨s1,z1⟩:=lC (R:=RN) (G:=fun x=>x.size<=9223372036854775807) s1;obtain ⟨s2,z2⟩:=lC s2;obtain ⟨s3,z3⟩:=lC s3;obtain ⟨s4,z4⟩:=lC s4;obtain ⟨s5,z5⟩:=lC s5;refine ⟨⟨nm,rg,ol,ts,ls,ar,bs⟩,⟨A1,c1,A2,c2,A3,c3,A4,c4,A5,c5⟩,?_,⟨s1,s2,s3,s4,s5⟩,⟨by unfold maxLen at hn;simp only;omega,z1,fun x hx=>(z4 x hx).1,fun x hx=>(z5 x hx).nm⟩,⟨z3,fun x hx=>(z4 x hx).2,fun x hx=>(z5 x hx).st,fun x hx=>(z5 x hx).tm⟩⟩;congr 1
 apply Array.ext
 ·rw [hc7];rfl
 ·intro i h1 h2;have hi:i<7:=by omega
  rcases (show i=0\/i=1\/i=2\/i=3\/i=4\/i=5\/i=6 by omega) with rfl | rfl | rfl | rfl | rfl | rfl | rfl
  all_goals (apply Option.some.inj;rw [<- Array.getElem?_eq_getElem h1];first | (rw [e0];rfl) | (rw [e1];rfl) | (rw [e2];rfl) | (rw [e3];rfl) | (rw [e4];rfl) | (rw [e5];rfl) | (rw [e6];rfl))
end
end
end Go.Proofs.YtmknfbfppmkcfaaGreatDoor
