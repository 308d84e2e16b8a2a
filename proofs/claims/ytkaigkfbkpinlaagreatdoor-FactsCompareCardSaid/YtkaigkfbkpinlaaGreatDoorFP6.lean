/-
  Parts of the proof: Late HM RangeK Pair HN Two Seq.
-/
import Derived.Test.YtkaigkfbkpinlaaGreatDoorFP0
import Derived.Test.YtkaigkfbkpinlaaGreatDoorFP2
import Derived.Test.YtkaigkfbkpinlaaGreatDoorFP1
import Derived.Laws.MakeOwn
import Derived.Maps.OwnOps
import Derived.Deep.MidRow
namespace Go.Proofs.YtkaigkfbkpinlaaGreatDoor
set_option maxRecDepth 100000
set_option maxHeartbeats 16000000
section
open Go.RowKit
section
variable {P:Program} {ops:Array Oper} {Q:Exit->Act->World->Prop} {md:Region.Mode} {S:World->Prop} {t:Nat}
def waitsB (md:Region.Mode) (ops:Array Oper) (U:List Nat) (i j:Nat):Bool:=match ops[j]? with
 | some oj=>oj.after.any (fun e=>Region.binds md e && (e.on == i || U.contains e.on))
 | none=>false
def behind (md:Region.Mode) (ops:Array Oper) (listed:Array Bool) (i:Nat):Nat->List Nat->List Nat
 | 0,U=>U
 | n+1,U=>behind md ops listed i n ((List.range ops.size).filter fun j=> !listed.getD j true && (decide (j≠i) && waitsB md ops U i j))
def okU (md:Region.Mode) (ops:Array Oper) (listed:Array Bool) (i:Nat) (U:List Nat):Bool:=U.all fun j=> !listed.getD j true && (decide (j≠i) && waitsB md ops U i j)
def lateU (ops:Array Oper) (t:Nat) (listed:Array Bool) (i:Nat) (U:List Nat):Bool:=
 (List.range ops.size).all fun j=>listed.getD j true || decide (j=i) || U.contains j || match ops[i]?,ops[j]? with
   | some oi,some oj=>oi.apart ops oj && decide (j<t)
   | _,_=>true
theorem nD {i:Nat} {oi:Oper} {v:Value} {U:List Nat} (hi:ops[i]?=some oi) (hsel:∀(j:Nat) (o:Oper) cs b,ops[j]?=some o->o.op ≠ .select cs b)
 (hQ:∀c a w,Q (.panic c) (a.put oi.dst v) w->Q (.panic c) a w) (hU:∀j∈U,j≠i/\waitsB md ops U i j=true):
 ∀(fuel:Nat) (listed:Array Bool) (a:Act) (w:World),(∀j∈U,listed.getD j true=false)->
  (∀j oj,ops[j]?=some oj->j≠i->listed.getD j true=false->j∉U->oi.apart ops oj=true/\j<t)->
  i∈Region.ready md ops listed->YieldsIf P ops S oi v a->S w->
  wpAnyM P md ops Q S t fuel (listed.setIfInBounds i true) (a.put oi.dst v) w->wpAnyM P md ops Q S t (fuel+1) listed a w:=by
 intro fuel;induction fuel with
 | zero=>
   intro listed a w _ _ hr hy hS H;refine ⟨fun h=>(by rw [h] at hr;cases hr),fun j hj=>?_⟩;by_cases hji:j=i
   ·subst hji;exact hy.wpOp hi hS ⟨fun _=>hS,H⟩
   ·have:=ready_mono hj hji;rw [H.1] at this;cases this
 | succ fuel ih=>
   intro listed a w hUl hfree hr hy hS H;refine ⟨fun h=>(by rw [h] at hr;cases hr),fun j hj=>?_⟩;by_cases hji:j=i
   ·subst hji;exact hy.wpOp hi hS ⟨fun _=>hS,H⟩
   ·have h1:=H.2 j (ready_mono hj hji);obtain ⟨hjun,oj,hoj,hall⟩:=mem_ready.1 hj
    have unl:∀(k:Nat),listed.getD k true=false->listed.getD k false=true->False:=fun k h0 h1=>by
     rcases Nat.lt_or_ge k listed.size with h' | h'
     ·simp [h'] at h0 h1;rw [h0] at h1;cases h1
     ·simp [Array.getElem?_eq_none h'] at h1
    have hnot:j∉U:=fun hm=>by
     obtain ⟨_,hw⟩:=hU j hm;unfold waitsB at hw;rw [hoj] at hw;obtain ⟨e,he,hb⟩:=Array.any_eq_true'.1 hw;simp only [bR,Bool.or_eq_true,beq_iff_eq] at hb;have h2:=hall e he hb.1;rcases hb.2 with heq | heq
     ·rw [heq] at h2;exact unl i (mem_ready.1 hr).1 (by simpa using h2)
     ·exact unl e.on (hUl e.on (by simpa using heq)) (by simpa using h2)
    have h2:=wpOp_putIf hoj (hfree j oj hoj hji hjun hnot).1 (fun cs b=>hsel i oi cs b hi) (fun cs b=>hsel j oj cs b hoj) hQ hy h1;have hjt:=(hfree j oj hoj hji hjun hnot).2;have hset:∀k,k≠j->(listed.setIfInBounds j true).getD k true=listed.getD k true:=fun k hk=>getD_set_ne true (fun e=>hk e.symm)
    have hUl':∀k∈U,(listed.setIfInBounds j true).getD k true=false:=fun k hk=>by
     rw [hset k (fun e=>hnot (e ▸ hk))];exact hUl k hk
    have hfree':∀k ok,ops[k]?=some ok->k≠i->(listed.setIfInBounds j true).getD k true=false->k∉U->oi.apart ops ok=true/\k<t:=fun k ok hk hki hun hno=>by
     refine hfree k ok hk hki ?_ hno;by_cases hjk:j=k
     ·subst hjk;exact hjun
     ·rw [hset k (fun e=>hjk e.symm)] at hun;exact hun
    refine wpOp_mono (fun a' w' h3=>⟨h3.2.1,ih (listed.setIfInBounds j true) a' w' hUl' hfree' (ready_mono hr (Ne.symm hji)) h3.1 (h3.2.1 hjt) ?_⟩) h2;rw [Array.setIfInBounds_comm _ _ hji];exact h3.2.2
def okO2 (ops:Array Oper) (t:Nat) (ord:List Nat) (k:Nat):Bool:=
 let l:=lstO ops.size ord k
 let i:=ord.getD k 0
 let U:=behind .any ops l i ops.size []
 decide (k<ord.length) && (decide (k<ops.size) && (decide (i<ops.size) && (Region.noSelect ops && (okU .any ops l i U && (lateU ops t l i U && (Region.ready .any ops l).contains i)))))
theorem fN {t:Nat} {ord:List Nat} {k:Nat} {v:Value} {a:Act} {w:World} (hok:okO2 ops t ord k=true) (hQ:∀c a w,Q (.panic c) (a.put ((ops[ord.getD k 0]?).getD default).dst v) w->Q (.panic c) a w)
 (hy:YieldsIf P ops S ((ops[ord.getD k 0]?).getD default) v a) (hS:S w) (h:wpO P ops Q S t ord (k+1) (a.put ((ops[ord.getD k 0]?).getD default).dst v) w):wpO P ops Q S t ord k a w:=by
 simp only [okO2,bR,decide_eq_true_eq] at hok;obtain ⟨h0,hk0,hk,h1,h2,h3,h4⟩:=hok;have ho:ops[ord.getD k 0]?=some ((ops[ord.getD k 0]?).getD default):=by rw [Array.getElem?_eq_getElem hk];rfl
 unfold wpO at h ⊢;rw [show ops.size - k=(ops.size - (k+1))+1 by omega];have hu:=List.all_eq_true.1 h2;refine nD (U:=behind .any ops (lstO ops.size ord k) (ord.getD k 0) ops.size []) ho (Region.noSelect_spec h1) hQ (fun j hj=>?_) _ _ a w (fun j hj=>?_) (fun j oj hj hne hun hno=>?_) (by simpa using h4) hy hS ?_
 ·have:=hu j hj;simp only [bR,decide_eq_true_eq] at this;exact this.2
 ·have:=hu j hj;simp only [bR,Bool.not_eq_true'] at this;exact this.1
 ·have:=List.all_eq_true.1 h3 j (List.mem_range.2 (Array.getElem?_eq_some_iff.1 hj).1);rw [ho,hj] at this;simp only [hun,Bool.false_or,Bool.or_eq_true,decide_eq_true_eq,bR,List.contains_iff_mem] at this;rcases this with (h5 | h5) | h5
  ·exact absurd h5 hne
  ·exact absurd h5 hno
  ·exact h5
 ·rw [fV h0];exact h
end
end
section
open Go Go.RowKit Go.Maps
structure Kc (A B:World):Prop where
 cell:∀a v,A.cell? a=some v->B.cell? a=some v
 size:A.heap.size<=B.heap.size
theorem Kc.refl (A:World):Kc A A:=⟨fun _ _ h=>h,bA _⟩
theorem Kc.trans {A B C:World} (h:Kc A B) (k:Kc B C):Kc A C:=⟨fun a v g=>k.cell a v (h.cell a v g),cA h.size k.size⟩
theorem Kc.of_below {A B:World} (h:Below A.heap.size A B):Kc A B:=⟨fun _ _ g=>cQ h g,h.size⟩
theorem nS {w:World} {a:Addr} {v:Value} (h:w.cell? a=some v):∃cs e z,w.heap[a.block]?=some (.cells cs e z):=by
 unfold World.cell? at h;split at h
 ·exact ⟨_,_,_,by assumption⟩
 ·cases h
theorem Kc.of_grown {A B:World} {b:Nat} (hm:∀cs e z,A.heap[b]?≠some (.cells cs e z)) (hg:A.grownBy B (some b)):Kc A B:=
 ⟨fun a v h=>by
   obtain ⟨cs,e,z,hc⟩:=nS h
   exact (World.cell?_of_block (hg.block a.block (Array.getElem?_eq_some_iff.1 hc).1 (fun e'=>by injection e' with e';exact hm cs e z (e' ▸ hc)))).trans h,hg.size⟩
def Rd.KeepsC {α : Type} (R:Rd α):Prop:=∀(w w':World) (B B' b o:Nat) (x : α),B<=B'->Kc w w'->R w B b o x->R w' B' b o x
theorem RInt.keepsC:RInt.KeepsC:=fun _ _ _ _ _ _ _ _ hk h=>hk.cell _ _ h
theorem RPr.keepsC:RPr.KeepsC:=fun _ _ _ _ _ _ _ _ hk h=>⟨hk.cell _ _ h.1,hk.cell _ _ h.2⟩
theorem Sl.keepC {α : Type} {k:Nat} {R:Rd α} (hR:R.KeepsC) {w w':World} {B B':Nat} {A:Option Addr} {xs:List α} (h:Sl k R w B A xs) (hB:B<=B') (hb:Kc w w'):Sl k R w' B' A xs:=fun hn=>by
 obtain ⟨b,off,hA,hlt,hx⟩:=h hn;exact ⟨b,off,hA,by omega,fun i x hi=>hR w w' B B' b _ x hB hb (hx i x hi)⟩
theorem Slc.keepC {α : Type} {k:Nat} {R:Rd α} (hR:R.KeepsC) {w w':World} {A:Option Addr} {c:Nat} {xs:List α} (h:Slc k R w A c xs) (hb:Kc w w'):Slc k R w' A c xs:=
 ⟨h.sl.keepC hR hb.size hb,h.le,h.big⟩
def rowA (n:Nat) (F:Nat->Value):Array Value:=(Array.range n).map F
def RowF (w:World) (b n:Nat) (T:TypeId) (F:Nat->Value):Prop:=w.heap[b]?=some (.cells (rowA n F) T (0,0))
def updF1 (F:Nat->Value) (j:Nat) (v:Value):Nat->Value:=fun i=>if i=j then v else F i
theorem RowF.cell {w:World} {b n:Nat} {T:TypeId} {F:Nat->Value} (h:RowF w b n T F) {j:Nat} (hj:j<n):w.cell? ⟨b,j,none⟩=some (F j):=by
 unfold RowF rowA at h;simp [World.cell?,h,hj]
theorem RowF.frozen {w:World} {b n:Nat} {T:TypeId} {F:Nat->Value} (h:RowF w b n T F) (j:Nat):w.frozen? ⟨b,j,none⟩=false:=by
 unfold RowF at h;simp [World.frozen?,h]
theorem RowF.lt {w:World} {b n:Nat} {T:TypeId} {F:Nat->Value} (h:RowF w b n T F):b<w.heap.size:=(Array.getElem?_eq_some_iff.1 h).1
theorem RowF.block {w w':World} {b n:Nat} {T:TypeId} {F:Nat->Value} (h:RowF w b n T F) (hb:w'.heap[b]?=w.heap[b]?):RowF w' b n T F:=hb.trans h
theorem RowF.set {w:World} {b n:Nat} {T:TypeId} {F:Nat->Value} (h:RowF w b n T F) (j:Nat) (v:Value):RowF (w.setCell ⟨b,j,none⟩ v) b n T (updF1 F j v):=by
 unfold RowF at h ⊢
 have:(rowA n F).setIfInBounds j v=rowA n (updF1 F j v):=by
  apply Array.ext_getElem?
  intro i;by_cases hi:i<n
  ·by_cases hij:i=j
   ·subst hij;simp [rowA,updF1,hi]
   ·simp [rowA,updF1,hi,hij,Ne.symm hij]
  ·by_cases hij:i=j
   ·subst hij;simp [rowA,hi]
   ·simp [rowA,hi]
 rw [<- this];simp [World.setCell,Array.getElem?_modify,h]
theorem RowF.congr {w:World} {b n:Nat} {T:TypeId} {F G:Nat->Value} (h:RowF w b n T F) (he:∀j,j<n->F j=G j):RowF w b n T G:=by
 have:rowA n F=rowA n G:=by
  apply Array.ext_getElem?
  intro i;by_cases hi:i<n
  ·simp [rowA,hi,he i hi]
  ·simp [rowA,hi]
 unfold RowF at h ⊢;rw [<- this];exact h
theorem RowF.new (w:World) (n:Nat) (T:TypeId) (F:Nat->Value):RowF (w.alloc (.cells (rowA n F) T)) w.heap.size n T F:=heap_alloc_new w _
theorem RowF.below {w W:World} {n₀ b j:Nat} (v:Value) (hb:n₀ <= b) (h:Below n₀ w W):Below n₀ w (W.setCell ⟨b,j,none⟩ v):=h.setCell hb v
theorem fQ {P:Program} (w:World) (t e:TypeId) (i:TypeInfo) (z:Value) (zs:Array Value) (k:Nat) (ht:P.underlying t=some (.slice e)) (hi:P.info? e=some i) (hz:i.zero=some z) (hzs:z.cells=zs) (hk:i.size=k)
 (n:Nat) (hbytes:i.bytes * n<=281474976710656) (h63:n<=9223372036854775807):
 (Instr.makeSlice t (.int .i64 (n:Int)) (.int .i64 (n:Int))).run P w = .ok (.slice (some ⟨w.heap.size,0,none⟩) n n) (w.alloc (.cells (rowA (n * k) (fun j=>zs[j % zs.size]!)) e)):=by
 have hb':(i.bytes:Int) * (n:Int)<=281474976710656:=by
  have h:((i.bytes * n:Nat):Int)<=281474976710656:=by omega
  rwa [Int.natCast_mul] at h
 have:=run_make (P:=P) w t e i z ht hi hz .i64 .i64 n n (by omega) (Int.le_refl _) hb' (by omega);simp only [bX,hzs,hk] at this;exact this
end
section
open Go.RowKit
variable {F:Fence} {n:Nat} {P:Program}
def SeqK {α : Type} (F:Fence) (n:Nat) (P:Program) (g:Nat) (lb:Array Value) (encs : α -> Array Value) (T:TypeId->Bool) (N:Nat->Prop) (L:List α) (w:World):Prop:=
 ∀(l:Nat) (J Jx:List α -> World->Prop) (W:World),Below w.heap.size w W->
  (∀s A B,J s A->Turn W.heap.size T A B->J s B)->(∀s A B,Jx s A->Turn W.heap.size T A B->Jx s B)->
  (∀pre x post W1,L=pre ++ x :: post->J pre W1->YieldAt F (n - 1) P l (encs x) W1 fun e W'=>
    (e = .returned (.bool true)/\J (pre ++ [x]) W'/\Kb N W.heap.size T W1 W')\/(e = .returned (.bool false)/\Jx (pre ++ [x]) W'/\Kb N W.heap.size T W1 W'))->
  J [] W->
  CallsIn F n P g (#[.func (.yield l) #[] #[]] ++ lb) W fun e W'=>(∃v,e = .returned v)/\(J L W'\/∃pre x post,L=pre ++ x :: post/\Jx (pre ++ [x]) W')
theorem SeqL.k {α : Type} {g:Nat} {lb:Array Value} {encs : α -> Array Value} {T:TypeId->Bool} {N:Nat->Prop} {L:List α} {w:World} (h:SeqL F n P g lb encs T N L w):SeqK F n P g lb encs T N L w:=
 fun l J Jx W hW hJ hJx hY h0=>h l J Jx W hW hJ hJx (fun pre x post W1 hL hp=>(hY pre x post W1 hL hp).mono (fun _e _W' q=>q.imp id (fun g=>⟨g.1,g.2.1⟩))) h0
theorem iV {m m' lr l:Nat} {f:FuncId} {tmps:Array Value} {assign body:Code} {w:World} {R:Ending->World->Prop} (h:RoundIn Fence.wide m P l f tmps assign body w R):RoundIn (Fence.wide.inRound lr) m' P l f tmps assign body w R:=
 ⟨trivial,fun c cs _=>h.2 c cs (fun _d hd=>nomatch hd)⟩
theorem gO {α : Type} {g:Operand} {ps:Array Tmp} {assign body:Code} {Q:Exit->Act->World->Prop} {a:Act} {w:World}
 (hro:F.round=none) (h1:1<=n) {gf:Nat} {lb:Array Value} (hg:a.eval g = .func (.func gf) #[] lb) (hFg:F.fn gf) (eg:∀args w,(callFunc gf args).run P w = .ok (.enter gf args) w)
 {encs : α -> Array Value} {T:TypeId->Bool} {N:Nat->Prop} {L:List α} {w0:World} (hseq:SeqK F (n - 1) P gf lb encs T N L w0) (hb0:Below w0.heap.size w0 w) (hNl:∀k,N k->k<w.heap.size) (hps:∀x,(encs x).size=ps.size)
 (I:List α -> World->Prop) (Ix:Code->List α -> World->Prop) (hI:∀s A B,I s A->Turn w.heap.size T A B->I s B) (hIx:∀c s A B,Ix c s A->Turn w.heap.size T A B->Ix c s B) (h0:I [] w)
 (hround:∀(l:Nat) (pre:List α) (x : α) (post:List α) (W:World),L=pre ++ x :: post->w.heap.size<=l->(∃r,W.heap[l]?=some (.loop r))->w.heap.size<=W.heap.size->I pre W->
   assign.wpIn (F.inRound l) (n - 1 - 1) P (Exit.then (fun a' W'=>Kb N w.heap.size T W W'/\∀W'',Rec l W' W''->body.wpIn (F.inRound l) (n - 1 - 1) P (rPost N w.heap.size T I Ix (pre ++ [x]) W'') a' W'') (fun _ _ _=>False))
    { tmps:=(ps.zip (encs x)).foldl (fun t (p,v)=>t.setIfInBounds p v) a.tmps,defers:=[] } W)
 (hdone:∀(D:Nat) (W:World),w.heap.size<=D->I L W->W.heap[D]?=some (.deferred (some []))->Q .normal { a with defers:={ target:= .collected D,args:= #[] } :: a.defers } W)
 (hstop:∀(D:Nat) (c:Code) (pre:List α) (x : α) (post:List α) (W:World),w.heap.size<=D->L=pre ++ x :: post->Ix c (pre ++ [x]) W->W.heap[D]?=some (.deferred (some []))->c.wpIn F n P Q { a with defers:={ target:= .collected D,args:= #[] } :: a.defers } W):
 (Code.rangeFunc g ps assign body).wpIn F n P Q a w:=by
 refine wpIn_rangeFunc ?_;intro fn hfn;rw [hro];obtain ⟨rec,hrec⟩:∃rec:LoopState->Option Code->Loop,rec=fun st pe=>{ state:=st,pending:=pe,fn,tmps:=a.tmps,params:=ps,assign,body,defers:=w.heap.size }:=⟨_,rfl⟩
 obtain ⟨W1,hW1⟩:∃W1,(w.alloc (.deferred (some []))).alloc (.loop (rec .ready none))=W1:=⟨_,rfl⟩
 have hL1:W1.heap[w.heap.size+1]?=some (.loop (rec .ready none)):=by
  rw [<- hW1];have:=World.alloc_heap_new (w.alloc (.deferred (some []))) (.loop (rec .ready none));rwa [bK] at this
 have hK1:W1.heap[w.heap.size]?=some (.deferred (some [])):=by
  rw [<- hW1];exact (Below.heap_alloc _ _ _ (by simp)).trans (World.alloc_heap_new w _)
 have hbw:Below w.heap.size w W1:=by rw [<- hW1];exact ((aZ _ w).alloc (bA _) _).alloc (by simp) _
 have hI1:I [] W1:=hI _ _ _ h0 (Turn.of_below hbw);have hb1:Below w0.heap.size w0 W1:=hb0.trans (hbw.mono hb0.size);have hsz:W1.heap.size=w.heap.size+2:=by rw [<- hW1];simp
 refine ⟨w.heap.size+1,[{ target:= .collected w.heap.size,args:= #[] }],W1,{ target:= .fn (.func gf) lb,args:= #[.func (.yield (w.heap.size+1)) #[] #[]] },W1,gf,
  #[.func (.yield (w.heap.size+1)) #[] #[]] ++ lb,W1,?_,?_,?_,?_,fun _=>h1,?_⟩
 ·rw [<- hW1,hrec];exact run_enterLoop_outer _ _ _ _ _
 ·simp only [resolve,hg];simp [go_sem]
 ·intro f' hf';simp [Target.leads] at hf';subst hf';exact hFg
 ·simp [invoke,go_sem,eg]
 ·refine (hseq (w.heap.size+1)
   (fun pre W=>I pre W/\W.heap[w.heap.size+1]?=some (.loop (rec .ready none))/\W.heap[w.heap.size]?=some (.deferred (some []))/\w.heap.size+2<=W.heap.size)
   (fun pre W=>∃c,Ix c pre W/\W.heap[w.heap.size+1]?=some (.loop (rec .done (some c)))/\W.heap[w.heap.size]?=some (.deferred (some [])))
   W1 hb1
   (fun s A B hs ht=>⟨hI s A B hs.1 (ht.mono (by omega)),ht.block_low (by omega) hs.2.1,ht.block_low (by omega) hs.2.2.1,cA hs.2.2.2 ht.size⟩)
   (fun s A B hs ht=>by
     obtain ⟨c,hc,hl,hk⟩:=hs
     exact ⟨c,hIx c s A B hc (ht.mono (by omega)),ht.block_low (by omega) hl,ht.block_low (by omega) hk⟩)
   ?_ ⟨hI1,hL1,hK1,by omega⟩).mono ?_
  ·rintro pre x post W hL ⟨hi,hl,hk,hws⟩;have hy:=run_yield (P:=P) (args:=encs x) hl (by rw [hrec];exact hps x);rw [hrec] at hy;refine ⟨fn,_,assign,body,hy,roundIn_of_wpIn hfn (wpIn_mono (hround _ pre x post W hL (by omega) ⟨_,hl⟩ (by omega) hi) ?_)⟩;clear hy;rintro e a1 Wa hq;cases e with
   | normal=>
     obtain ⟨hka,hbody⟩:=hq;have hla:=hka.same _ _ (by omega) hl rfl;have hkk:=hka.same _ _ (bA _) hk rfl;refine ⟨_,run_beginRound hla (by rw [hrec]),wpIn_mono (hbody _ (pU _ hla)) ?_⟩;have hlb:(Wa.putObj (w.heap.size+1) (.loop { rec .ready none with state:= .busy })).heap[w.heap.size+1]?=some (.loop { rec .ready none with state:= .busy }):=World.putObj_heap_same (Array.getElem?_eq_some_iff.1 hla).1;have hkb:(Wa.putObj (w.heap.size+1) (.loop { rec .ready none with state:= .busy })).heap[w.heap.size]?=some (.deferred (some [])):=(World.putObj_heap_other (by omega)).trans hkk;have hsb:w.heap.size+2<=(Wa.putObj (w.heap.size+1) (.loop { rec .ready none with state:= .busy })).heap.size:=by simp;exact cA hws hka.size
     have fin:∀(jump:Option Code) (W3:World),Kb N w.heap.size T (Wa.putObj (w.heap.size+1) (.loop { rec .ready none with state:= .busy })) W3->
      (Instr.endRound (w.heap.size+1) jump).run P W3 = .ok (.bool jump.isNone) (W3.putObj (w.heap.size+1) (.loop (rec (if jump.isNone then .ready else .done) jump)))/\
      W3.heap[w.heap.size+1]?=some (.loop { rec .ready none with state:= .busy })/\
      (W3.putObj (w.heap.size+1) (.loop (rec (if jump.isNone then .ready else .done) jump))).heap[w.heap.size+1]?=some (.loop (rec (if jump.isNone then .ready else .done) jump))/\
      (W3.putObj (w.heap.size+1) (.loop (rec (if jump.isNone then .ready else .done) jump))).heap[w.heap.size]?=some (.deferred (some []))/\
      Kb N W1.heap.size T W (W3.putObj (w.heap.size+1) (.loop (rec (if jump.isNone then .ready else .done) jump)))/\
      w.heap.size+2<=(W3.putObj (w.heap.size+1) (.loop (rec (if jump.isNone then .ready else .done) jump))).heap.size:=fun jump W3 hk3=>by
      have hl3:=hk3.same _ _ (by omega) hlb rfl;have hr:=run_endRound (P:=P) jump hl3;rw [hrec] at hr hl3 ⊢
      have kput:∀(X:World) (o o':Obj),X.heap[w.heap.size+1]?=some o->Kb N W1.heap.size T X (X.putObj (w.heap.size+1) o'):=fun X o o' hX=>
       ⟨rfl,rfl,rfl,by simp,fun k hk _=>World.putObj_heap_other (by have:=hNl k hk;omega),fun k o1 hk hX1 _=>(World.putObj_heap_other (by omega)).trans hX1⟩
      rw [hrec] at hk3 hla;refine ⟨hr,hl3,World.putObj_heap_same (Array.getElem?_eq_some_iff.1 hl3).1,(World.putObj_heap_other (by omega)).trans (hk3.same _ _ (bA _) (by rw [hrec] at hkb;exact hkb) rfl),?_,?_⟩
      ·exact (((hka.mono (by omega)).trans (kput _ _ _ hla)).trans (hk3.mono (by omega))).trans (kput _ _ _ hl3)
      ·have h5:=hk3.size;rw [World.putObj_size] at h5 ⊢;exact cA (by rw [World.putObj_size] at hsb;exact hsb) h5
     rintro e a3 W3 hp;cases e with
     | normal=>
       obtain ⟨hk3,hi3⟩:=hp;obtain ⟨hr,hl3,hl4,hk4,hk5,hs5⟩:=fin none W3 hk3;exact ⟨_,_,hr,.inl ⟨rfl,⟨hI _ _ _ hi3 (Turn.putObj _ hl3 (by omega) rfl),hl4,hk4,hs5⟩,hk5⟩⟩
     | ret=>
       obtain ⟨hk3,hi3⟩:=hp;obtain ⟨hr,hl3,hl4,hk4,hk5,hs5⟩:=fin (some .ret) W3 hk3;exact ⟨_,_,hr,.inr ⟨rfl,⟨.ret,hIx _ _ _ _ hi3 (Turn.putObj _ hl3 (by omega) rfl),hl4,hk4⟩,hk5⟩⟩
     | exit id=>
       obtain ⟨hk3,hi3⟩:=hp;obtain ⟨hr,hl3,hl4,hk4,hk5,hs5⟩:=fin (some (.exit id)) W3 hk3;exact ⟨_,_,hr,.inr ⟨rfl,⟨.exit id,hIx _ _ _ _ hi3 (Turn.putObj _ hl3 (by omega) rfl),hl4,hk4⟩,hk5⟩⟩
     | goto t=>
       obtain ⟨hk3,hi3⟩:=hp;obtain ⟨hr,hl3,hl4,hk4,hk5,hs5⟩:=fin (some (.goto t)) W3 hk3;exact ⟨_,_,hr,.inr ⟨rfl,⟨.goto t,hIx _ _ _ _ hi3 (Turn.putObj _ hl3 (by omega) rfl),hl4,hk4⟩,hk5⟩⟩
     | panic ch=>exact hp.elim
     | outgrown=>exact hp.elim
   | exit id=>exact hq.elim
   | goto t=>exact hq.elim
   | ret=>exact hq.elim
   | panic chain=>exact hq.elim
   | outgrown=>exact hq.elim
  ·rintro e W2 ⟨⟨v,rfl⟩,(⟨hi,hl,hk,_⟩ | ⟨pre,x,post,hL,c,hi,hl,hk⟩)⟩
   ·exact ⟨none,_,by have:=run_endLoop (P:=P) hl (by rw [hrec];simp);rw [hrec] at this;exact this,hdone _ _ (bA _) (hI _ _ _ hi (Turn.putObj _ hl (by omega) rfl)) ((World.putObj_heap_other (by omega)).trans hk)⟩
   ·exact ⟨some c,_,by have:=run_endLoop (P:=P) hl (by rw [hrec];simp);rw [hrec] at this;exact this,hstop _ c pre x post _ (bA _) hL (hIx c _ _ _ hi (Turn.putObj _ hl (by omega) rfl)) ((World.putObj_heap_other (by omega)).trans hk)⟩
end
section
open Go Go.RowKit
section
variable {P:Program} {ops:Array Oper} {Q:Exit->Act->World->Prop} {S:World->Prop}
def pairO (ops:Array Oper) (ord ord':List Nat) (k:Nat):Bool:=
 decide (k+1<ops.size) && decide (ord.getD k 0<ops.size) && decide (ord.getD (k+1) 0<ops.size) && decide (ord'.getD k 0=ord.getD (k+1) 0) && decide (ord'.getD (k+1) 0=ord.getD k 0) &&
  decide (Region.ready .any ops (lstO ops.size ord k)=[ord.getD k 0,ord.getD (k+1) 0]) && decide (Region.ready .any ops (lstO ops.size ord (k+1))=[ord.getD (k+1) 0]) && decide (Region.ready .any ops (lstO ops.size ord' (k+1))=[ord.getD k 0]) &&
  decide ((lstO ops.size ord k).setIfInBounds (ord.getD k 0) true=lstO ops.size ord (k+1)) && decide ((lstO ops.size ord k).setIfInBounds (ord.getD (k+1) 0) true=lstO ops.size ord' (k+1)) &&
  decide ((lstO ops.size ord (k+1)).setIfInBounds (ord.getD (k+1) 0) true=lstO ops.size ord (k+2)) && decide ((lstO ops.size ord' (k+1)).setIfInBounds (ord.getD k 0) true=lstO ops.size ord (k+2))
theorem iK {t:Nat} {ord:List Nat} {k:Nat} {a:Act} {w:World} (ord':List Nat) (z:Obj) (hok:pairO ops ord ord' k=true)
 (hi:∀(a:Act) (w:World) (K:Act->World->Prop),K (a.put ((ops[ord.getD k 0]?).getD default).dst (.pointer (some ⟨w.heap.size,0,none⟩))) (w.alloc z)->if Region.wanted ((ops[ord.getD k 0]?).getD default) (yielded ops a.tmps)=true then Oper.wp P ((ops[ord.getD k 0]?).getD default) a w K Q else K (a.put ((ops[ord.getD k 0]?).getD default).dst undef) w)
 (hj:∀(a:Act) (w:World) (K:Act->World->Prop),K (a.put ((ops[ord.getD (k+1) 0]?).getD default).dst (.pointer (some ⟨w.heap.size,0,none⟩))) (w.alloc z)->if Region.wanted ((ops[ord.getD (k+1) 0]?).getD default) (yielded ops a.tmps)=true then Oper.wp P ((ops[ord.getD (k+1) 0]?).getD default) a w K Q else K (a.put ((ops[ord.getD (k+1) 0]?).getD default).dst undef) w)
 (hcomm:∀x y,(a.put ((ops[ord.getD (k+1) 0]?).getD default).dst x).put ((ops[ord.getD k 0]?).getD default).dst y=(a.put ((ops[ord.getD k 0]?).getD default).dst y).put ((ops[ord.getD (k+1) 0]?).getD default).dst x)
 (hS1:S (w.alloc z)) (hS2:S ((w.alloc z).alloc z))
 (h:∀ga gb:Nat,(ga=w.heap.size/\gb=w.heap.size+1)\/(ga=w.heap.size+1/\gb=w.heap.size)->wpO P ops Q S t ord (k+2) ((a.put ((ops[ord.getD k 0]?).getD default).dst (.pointer (some ⟨ga,0,none⟩))).put ((ops[ord.getD (k+1) 0]?).getD default).dst (.pointer (some ⟨gb,0,none⟩))) ((w.alloc z).alloc z)):
 wpO P ops Q S t ord k a w:=by
 simp only [pairO,bR,decide_eq_true_eq] at hok;obtain ⟨⟨⟨⟨⟨⟨⟨⟨⟨⟨⟨h0,h1⟩,h2⟩,-⟩,-⟩,r0⟩,r1⟩,r2⟩,l1⟩,l2⟩,l3⟩,l4⟩:=hok;have hoi:ops[ord.getD k 0]?=some ((ops[ord.getD k 0]?).getD default):=by rw [Array.getElem?_eq_getElem h1];rfl
 have hoj:ops[ord.getD (k+1) 0]?=some ((ops[ord.getD (k+1) 0]?).getD default):=by rw [Array.getElem?_eq_getElem h2];rfl
 unfold wpO at h ⊢;rw [show ops.size - k=(ops.size - (k+2))+1+1 by omega];refine ⟨fun h=>(by rw [r0] at h;cases h),fun i hmem=>?_⟩;rw [r0,cM,bU] at hmem;rcases hmem with rfl | rfl
 ·refine wpOp_step hoi (fun K' hK=>hi _ _ K' (hK _ _ ⟨fun _=>hS1,?_⟩));rw [l1];refine eG r1 hoj (fun K2 hK2=>hj _ _ K2 (hK2 _ _ (fun _=>hS2) ?_));rw [l3];have:=h w.heap.size (w.heap.size+1) (Or.inl ⟨rfl,rfl⟩);rwa [bK]
 ·refine wpOp_step hoj (fun K' hK=>hj _ _ K' (hK _ _ ⟨fun _=>hS1,?_⟩));rw [l2];refine eG r2 hoi (fun K2 hK2=>hi _ _ K2 (hK2 _ _ (fun _=>hS2) ?_));rw [l4,hcomm];have:=h (w.heap.size+1) w.heap.size (Or.inr ⟨rfl,rfl⟩);rwa [bK]
end
theorem dM {B b:Nat} {w0:World} (hb:B<=b):∀(vs:List Value) (o:Nat) (w:World),Below B w0 w->Below B w0 (w.setCells b o vs)
 | [],_,_,h=>h
 | _ :: vs,o,_,h=>dM hb vs (o+1) _ (h.setCell (by simp;omega) _)
theorem dK (w:World) (cs:Array Value) (t:TypeId) (k n:Nat) (hk:k=w.heap.size) (hn:n<=cs.size):(w.alloc (.cells cs t)).there k 0 n:=fun j hj=>by
 subst hk;constructor
 ·rw [World.cell?_alloc_at _ _ _ _ (by simp)];simp;omega
 ·have:(w.alloc (.cells cs t)).heap[w.heap.size]?=some (.cells cs t):=Array.getElem?_push_size;unfold World.frozen?;simp only [this];simp
end
section
open Go Go.RowKit Go.Maps
def updL1 (L:Nat->List Int) (j:Nat) (l:List Int):Nat->List Int:=fun i=>if i=j then l else L i
structure RowsI (w:World) (base blk n:Nat) (T:TypeId) (L:Nat->List Int) (F:Nat->Value):Prop where
 head:RowF w blk n T F
 rows:∀j,w.ownsRow base 3 1 (F j) (L j).length ((L j).map (Value.int .i64))
 apart:∀i j g,(F i).ownBlock=some g->(F j).ownBlock=some g->i=j
 lblk:blk<base
 low:base<=w.heap.size
theorem RowsI.keep {w w':World} {base blk n:Nat} {T:TypeId} {L:Nat->List Int} {F:Nat->Value} (h:RowsI w base blk n T L F) (hb:Below w.heap.size w w'):RowsI w' base blk n T L F:=
 ⟨h.head.block (hb.block _ h.head.lt),fun j=>dE (h.rows j) hb,h.apart,h.lblk,cA h.low hb.size⟩
theorem vE (w:World) (base:Nat) (e:TypeId) (k:Nat):w.ownsRow base e k (.slice none 0 0) 0 []:=⟨by simp,.inl ⟨rfl,rfl⟩⟩
theorem RowsI.new (w:World) (n:Nat) (T:TypeId) (F:Nat->Value) (hF:∀j,F j = .slice none 0 0) (k:Nat) (hk:k=w.heap.size):RowsI (w.alloc (.cells (rowA n F) T)) (k+1) k n T (fun _=>[]) F:=by
 subst hk;exact ⟨RowF.new w n T F,fun j=>by rw [hF];exact vE _ _ _ _,fun i j g h=>(by rw [hF] at h;exact absurd h (by simp [Value.ownBlock])),by omega,by simp⟩
theorem RowsI.step {w w2:World} {base blk n:Nat} {T:TypeId} {L:Nat->List Int} {F:Nat->Value} (h:RowsI w base blk n T L F) (j:Nat) (y:Int) (v':Value)
 (hown:w2.ownsRow base 3 1 v' ((L j).length+1) ((L j).map (Value.int .i64) ++ [.int .i64 y])) (hgrow:w.grownBy w2 (F j).ownBlock) (hloc:v'.ownBlock=(F j).ownBlock\/v'.ownBlock=some w.heap.size):
 RowsI (w2.setCell ⟨blk,j,none⟩ v') base blk n T (updL1 L j (L j ++ [y])) (updF1 F j v'):=by
 have hne:∀k,k<base->some k≠(F j).ownBlock:=fun k hk e=>by
  have:=((h.rows j).lt k e.symm).1;omega
 have hset:∀k,k≠blk->(w2.setCell ⟨blk,j,none⟩ v').heap[k]?=w2.heap[k]?:=fun k hk=>bJ w2 ⟨blk,j,none⟩ v' k hk
 have hlb:=h.lblk;have hlow:=h.low;refine ⟨(h.head.block (hgrow.block blk h.head.lt (hne blk hlb))).set j v',fun i=>?_,fun i i' g h1 h2=>?_,hlb,by simp;exact cA hlow hgrow.size⟩
 ·unfold updL1 updF1;by_cases he:i=j
  ·rw [bD he,bD he,bE,cI,bV];exact dC hown (fun k hk _ _=>hset k (by omega))
  ·rw [bB he,bB he];refine dC (h.rows i) (fun k hk hk2 hkr=>?_);exact (hset k (by omega)).trans (hgrow.block k hk2 (fun e=>he (h.apart i j k hkr.symm e.symm)))
 ·unfold updF1 at h1 h2
  have key:∀i,i≠j->v'.ownBlock=some g->(F i).ownBlock=some g->False:=fun i hn hv hf=>by
   have hlt:=((h.rows i).lt g hf).2;rcases hloc with e | e
   ·exact hn (h.apart i j g hf (by rw [<- e];exact hv))
   ·rw [e] at hv;injection hv with hv;omega
  by_cases e1:i=j <;> by_cases e2:i'=j
  ·exact e1.trans e2.symm
  ·rw [bD e1] at h1;rw [bB e2] at h2;exact (key i' e2 h1 h2).elim
  ·rw [bB e1] at h1;rw [bD e2] at h2;exact (key i e1 h2 h1).elim
  ·rw [bB e1] at h1;rw [bB e2] at h2;exact h.apart i i' g h1 h2
end
section
open Go Go.RowKit
section
variable {P:Program} {ops:Array Oper} {Q:Exit->Act->World->Prop} {S:World->Prop}
def twoO (ops:Array Oper) (ord o1 o2:List Nat) (k:Nat):Bool:=
 decide (k<ops.size) && decide (k<o1.length) && decide (k<o2.length) && decide (o1.getD k 0<ops.size) && decide (o2.getD k 0<ops.size) &&
  decide (Region.ready .any ops (lstO ops.size ord k)=[o1.getD k 0,o2.getD k 0]) && decide (lstO ops.size o1 k=lstO ops.size ord k) && decide (lstO ops.size o2 k=lstO ops.size ord k)
theorem mZ {t:Nat} {ord:List Nat} {k:Nat} {a:Act} {w:World} (o1 o2:List Nat) (hok:twoO ops ord o1 o2 k=true)
 (h1:∀K':Act->World->Prop,Shut (∀a w,(o1.getD k 0<t->S w)->wpO P ops Q S t o1 (k+1) a w->K' a w)->if Region.wanted ((ops[o1.getD k 0]?).getD default) (yielded ops a.tmps)=true then Oper.wp P ((ops[o1.getD k 0]?).getD default) a w K' Q else K' (a.put ((ops[o1.getD k 0]?).getD default).dst undef) w)
 (h2:∀K':Act->World->Prop,Shut (∀a w,(o2.getD k 0<t->S w)->wpO P ops Q S t o2 (k+1) a w->K' a w)->if Region.wanted ((ops[o2.getD k 0]?).getD default) (yielded ops a.tmps)=true then Oper.wp P ((ops[o2.getD k 0]?).getD default) a w K' Q else K' (a.put ((ops[o2.getD k 0]?).getD default).dst undef) w):
 wpO P ops Q S t ord k a w:=by
 simp only [twoO,bR,decide_eq_true_eq] at hok;obtain ⟨⟨⟨⟨⟨⟨⟨hk,k1⟩,k2⟩,l1⟩,l2⟩,r0⟩,e1⟩,e2⟩:=hok;have hoi:ops[o1.getD k 0]?=some ((ops[o1.getD k 0]?).getD default):=by rw [Array.getElem?_eq_getElem l1];rfl
 have hoj:ops[o2.getD k 0]?=some ((ops[o2.getD k 0]?).getD default):=by rw [Array.getElem?_eq_getElem l2];rfl
 unfold wpO;rw [show ops.size - k=(ops.size - (k+1))+1 by omega];refine ⟨fun h=>(by rw [r0] at h;cases h),fun i hmem=>?_⟩;rw [r0,cM,bU] at hmem;rcases hmem with rfl | rfl
 ·refine wpOp_step hoi (fun K' hK=>h1 K' (fun a w hs hw=>hK a w ⟨hs,?_⟩));rw [<- e1,fV k1];exact hw
 ·refine wpOp_step hoj (fun K' hK=>h2 K' (fun a w hs hw=>hK a w ⟨hs,?_⟩));rw [<- e2,fV k2];exact hw
end
end
section
open Go.RowKit
variable {F:Fence} {n:Nat} {P:Program}
def SeqM {α : Type} (F:Fence) (n:Nat) (P:Program) (g:Nat) (lb:Array Value) (encs : α -> Array Value) (T:TypeId->Bool) (N:Nat->Prop) (Nx:List α -> α -> Prop) (Fin:List α -> Prop) (w:World):Prop:=
 ∀(l:Nat) (J Jx:List α -> World->Prop) (W:World),Below w.heap.size w W->
  (∀s A B,J s A->Turn W.heap.size T A B->J s B)->(∀s A B,Jx s A->Turn W.heap.size T A B->Jx s B)->
  (∀pre x W1,Nx pre x->J pre W1->YieldAt F (n - 1) P l (encs x) W1 fun e W'=>
    (e = .returned (.bool true)/\J (pre ++ [x]) W'/\Kb N W.heap.size T W1 W')\/(e = .returned (.bool false)/\Jx (pre ++ [x]) W'))->
  J [] W->
  CallsIn F n P g (#[.func (.yield l) #[] #[]] ++ lb) W fun e W'=>(∃v,e = .returned v)/\((∃L,Fin L/\J L W')\/∃pre x,Nx pre x/\Jx (pre ++ [x]) W')
theorem pM {α : Type} {g:Operand} {ps:Array Tmp} {assign body:Code} {Q:Exit->Act->World->Prop} {a:Act} {w:World}
 (hro:F.round=none) (h1:1<=n) {gf:Nat} {lb:Array Value} (hg:a.eval g = .func (.func gf) #[] lb) (hFg:F.fn gf) (eg:∀args w,(callFunc gf args).run P w = .ok (.enter gf args) w)
 {encs : α -> Array Value} {T:TypeId->Bool} {N:Nat->Prop} {Nx:List α -> α -> Prop} {Fin:List α -> Prop} {w0:World} (hseq:SeqM F (n - 1) P gf lb encs T N Nx Fin w0) (hb0:Below w0.heap.size w0 w) (hNl:∀k,N k->k<w.heap.size) (hps:∀x,(encs x).size=ps.size)
 (I:List α -> World->Prop) (Ix:Code->List α -> World->Prop) (hI:∀s A B,I s A->Turn w.heap.size T A B->I s B) (hIx:∀c s A B,Ix c s A->Turn w.heap.size T A B->Ix c s B) (h0:I [] w)
 (hround:∀(l:Nat) (pre:List α) (x : α) (W:World),Nx pre x->w.heap.size<=l->(∃r,W.heap[l]?=some (.loop r))->w.heap.size<=W.heap.size->I pre W->
   assign.wpIn (F.inRound l) (n - 1 - 1) P (Exit.then (fun a' W'=>Kb N w.heap.size T W W'/\∀W'',Rec l W' W''->body.wpIn (F.inRound l) (n - 1 - 1) P (rPost N w.heap.size T I Ix (pre ++ [x]) W'') a' W'') (fun _ _ _=>False))
    { tmps:=(ps.zip (encs x)).foldl (fun t (p,v)=>t.setIfInBounds p v) a.tmps,defers:=[] } W)
 (hdone:∀(D:Nat) (L:List α) (W:World),w.heap.size<=D->Fin L->I L W->W.heap[D]?=some (.deferred (some []))->Q .normal { a with defers:={ target:= .collected D,args:= #[] } :: a.defers } W)
 (hstop:∀(D:Nat) (c:Code) (pre:List α) (x : α) (W:World),w.heap.size<=D->Nx pre x->Ix c (pre ++ [x]) W->W.heap[D]?=some (.deferred (some []))->c.wpIn F n P Q { a with defers:={ target:= .collected D,args:= #[] } :: a.defers } W):
 (Code.rangeFunc g ps assign body).wpIn F n P Q a w:=by
 refine wpIn_rangeFunc ?_;intro fn hfn;rw [hro];obtain ⟨rec,hrec⟩:∃rec:LoopState->Option Code->Loop,rec=fun st pe=>{ state:=st,pending:=pe,fn,tmps:=a.tmps,params:=ps,assign,body,defers:=w.heap.size }:=⟨_,rfl⟩
 obtain ⟨W1,hW1⟩:∃W1,(w.alloc (.deferred (some []))).alloc (.loop (rec .ready none))=W1:=⟨_,rfl⟩
 have hL1:W1.heap[w.heap.size+1]?=some (.loop (rec .ready none)):=by
  rw [<- hW1];have:=World.alloc_heap_new (w.alloc (.deferred (some []))) (.loop (rec .ready none));rwa [bK] at this
 have hK1:W1.heap[w.heap.size]?=some (.deferred (some [])):=by
  rw [<- hW1];exact (Below.heap_alloc _ _ _ (by simp)).trans (World.alloc_heap_new w _)
 have hbw:Below w.heap.size w W1:=by rw [<- hW1];exact ((aZ _ w).alloc (bA _) _).alloc (by simp) _
 have hI1:I [] W1:=hI _ _ _ h0 (Turn.of_below hbw);have hb1:Below w0.heap.size w0 W1:=hb0.trans (hbw.mono hb0.size);have hsz:W1.heap.size=w.heap.size+2:=by rw [<- hW1];simp
 refine ⟨w.heap.size+1,[{ target:= .collected w.heap.size,args:= #[] }],W1,{ target:= .fn (.func gf) lb,args:= #[.func (.yield (w.heap.size+1)) #[] #[]] },W1,gf,
  #[.func (.yield (w.heap.size+1)) #[] #[]] ++ lb,W1,?_,?_,?_,?_,fun _=>h1,?_⟩
 ·rw [<- hW1,hrec];exact run_enterLoop_outer _ _ _ _ _
 ·simp only [resolve,hg];simp [go_sem]
 ·intro f' hf';simp [Target.leads] at hf';subst hf';exact hFg
 ·simp [invoke,go_sem,eg]
 ·refine (hseq (w.heap.size+1)
   (fun pre W=>I pre W/\W.heap[w.heap.size+1]?=some (.loop (rec .ready none))/\W.heap[w.heap.size]?=some (.deferred (some []))/\w.heap.size+2<=W.heap.size)
   (fun pre W=>∃c,Ix c pre W/\W.heap[w.heap.size+1]?=some (.loop (rec .done (some c)))/\W.heap[w.heap.size]?=some (.deferred (some [])))
   W1 hb1
   (fun s A B hs ht=>⟨hI s A B hs.1 (ht.mono (by omega)),ht.block_low (by omega) hs.2.1,ht.block_low (by omega) hs.2.2.1,cA hs.2.2.2 ht.size⟩)
   (fun s A B hs ht=>by
     obtain ⟨c,hc,hl,hk⟩:=hs
     exact ⟨c,hIx c s A B hc (ht.mono (by omega)),ht.block_low (by omega) hl,ht.block_low (by omega) hk⟩)
   ?_ ⟨hI1,hL1,hK1,by omega⟩).mono ?_
  ·rintro pre x W hL ⟨hi,hl,hk,hws⟩;have hy:=run_yield (P:=P) (args:=encs x) hl (by rw [hrec];exact hps x);rw [hrec] at hy;refine ⟨fn,_,assign,body,hy,roundIn_of_wpIn hfn (wpIn_mono (hround _ pre x W hL (by omega) ⟨_,hl⟩ (by omega) hi) ?_)⟩;clear hy;rintro e a1 Wa hq;cases e with
   | normal=>
     obtain ⟨hka,hbody⟩:=hq;have hla:=hka.same _ _ (by omega) hl rfl;have hkk:=hka.same _ _ (bA _) hk rfl;refine ⟨_,run_beginRound hla (by rw [hrec]),wpIn_mono (hbody _ (pU _ hla)) ?_⟩;have hlb:(Wa.putObj (w.heap.size+1) (.loop { rec .ready none with state:= .busy })).heap[w.heap.size+1]?=some (.loop { rec .ready none with state:= .busy }):=World.putObj_heap_same (Array.getElem?_eq_some_iff.1 hla).1;have hkb:(Wa.putObj (w.heap.size+1) (.loop { rec .ready none with state:= .busy })).heap[w.heap.size]?=some (.deferred (some [])):=(World.putObj_heap_other (by omega)).trans hkk;have hsb:w.heap.size+2<=(Wa.putObj (w.heap.size+1) (.loop { rec .ready none with state:= .busy })).heap.size:=by simp;exact cA hws hka.size
     have fin:∀(jump:Option Code) (W3:World),Kb N w.heap.size T (Wa.putObj (w.heap.size+1) (.loop { rec .ready none with state:= .busy })) W3->
      (Instr.endRound (w.heap.size+1) jump).run P W3 = .ok (.bool jump.isNone) (W3.putObj (w.heap.size+1) (.loop (rec (if jump.isNone then .ready else .done) jump)))/\
      W3.heap[w.heap.size+1]?=some (.loop { rec .ready none with state:= .busy })/\
      (W3.putObj (w.heap.size+1) (.loop (rec (if jump.isNone then .ready else .done) jump))).heap[w.heap.size+1]?=some (.loop (rec (if jump.isNone then .ready else .done) jump))/\
      (W3.putObj (w.heap.size+1) (.loop (rec (if jump.isNone then .ready else .done) jump))).heap[w.heap.size]?=some (.deferred (some []))/\
      Kb N W1.heap.size T W (W3.putObj (w.heap.size+1) (.loop (rec (if jump.isNone then .ready else .done) jump)))/\
      w.heap.size+2<=(W3.putObj (w.heap.size+1) (.loop (rec (if jump.isNone then .ready else .done) jump))).heap.size:=fun jump W3 hk3=>by
      have hl3:=hk3.same _ _ (by omega) hlb rfl;have hr:=run_endRound (P:=P) jump hl3;rw [hrec] at hr hl3 ⊢
      have kput:∀(X:World) (o o':Obj),X.heap[w.heap.size+1]?=some o->Kb N W1.heap.size T X (X.putObj (w.heap.size+1) o'):=fun X o o' hX=>
       ⟨rfl,rfl,rfl,by simp,fun k hk _=>World.putObj_heap_other (by have:=hNl k hk;omega),fun k o1 hk hX1 _=>(World.putObj_heap_other (by omega)).trans hX1⟩
      rw [hrec] at hk3 hla;refine ⟨hr,hl3,World.putObj_heap_same (Array.getElem?_eq_some_iff.1 hl3).1,(World.putObj_heap_other (by omega)).trans (hk3.same _ _ (bA _) (by rw [hrec] at hkb;exact hkb) rfl),?_,?_⟩
      ·exact (((hka.mono (by omega)).trans (kput _ _ _ hla)).trans (hk3.mono (by omega))).trans (kput _ _ _ hl3)
      ·have h5:=hk3.size;rw [World.putObj_size] at h5 ⊢;exact cA (by rw [World.putObj_size] at hsb;exact hsb) h5
     rintro e a3 W3 hp;cases e with
     | normal=>
       obtain ⟨hk3,hi3⟩:=hp;obtain ⟨hr,hl3,hl4,hk4,hk5,hs5⟩:=fin none W3 hk3;exact ⟨_,_,hr,.inl ⟨rfl,⟨hI _ _ _ hi3 (Turn.putObj _ hl3 (by omega) rfl),hl4,hk4,hs5⟩,hk5⟩⟩
     | ret=>
       obtain ⟨hk3,hi3⟩:=hp;obtain ⟨hr,hl3,hl4,hk4,hk5,hs5⟩:=fin (some .ret) W3 hk3;exact ⟨_,_,hr,.inr ⟨rfl,.ret,hIx _ _ _ _ hi3 (Turn.putObj _ hl3 (by omega) rfl),hl4,hk4⟩⟩
     | exit id=>
       obtain ⟨hk3,hi3⟩:=hp;obtain ⟨hr,hl3,hl4,hk4,hk5,hs5⟩:=fin (some (.exit id)) W3 hk3;exact ⟨_,_,hr,.inr ⟨rfl,.exit id,hIx _ _ _ _ hi3 (Turn.putObj _ hl3 (by omega) rfl),hl4,hk4⟩⟩
     | goto t=>
       obtain ⟨hk3,hi3⟩:=hp;obtain ⟨hr,hl3,hl4,hk4,hk5,hs5⟩:=fin (some (.goto t)) W3 hk3;exact ⟨_,_,hr,.inr ⟨rfl,.goto t,hIx _ _ _ _ hi3 (Turn.putObj _ hl3 (by omega) rfl),hl4,hk4⟩⟩
     | panic ch=>exact hp.elim
     | outgrown=>exact hp.elim
   | exit id=>exact hq.elim
   | goto t=>exact hq.elim
   | ret=>exact hq.elim
   | panic chain=>exact hq.elim
   | outgrown=>exact hq.elim
  ·rintro e W2 ⟨⟨v,rfl⟩,(⟨L,hF,hi,hl,hk,_⟩ | ⟨pre,x,hL,c,hi,hl,hk⟩)⟩
   ·exact ⟨none,_,by have:=run_endLoop (P:=P) hl (by rw [hrec];simp);rw [hrec] at this;exact this,hdone _ _ _ (bA _) hF (hI _ _ _ hi (Turn.putObj _ hl (by omega) rfl)) ((World.putObj_heap_other (by omega)).trans hk)⟩
   ·exact ⟨some c,_,by have:=run_endLoop (P:=P) hl (by rw [hrec];simp);rw [hrec] at this;exact this,hstop _ c pre x _ (bA _) hL (hIx c _ _ _ hi (Turn.putObj _ hl (by omega) rfl)) ((World.putObj_heap_other (by omega)).trans hk)⟩
end
end Go.Proofs.YtkaigkfbkpinlaaGreatDoor
