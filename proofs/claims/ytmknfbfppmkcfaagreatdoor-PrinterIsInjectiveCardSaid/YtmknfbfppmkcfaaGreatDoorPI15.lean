/-
  Parts of the proof: Late.
-/
import Derived.Test.YtmknfbfppmkcfaaGreatDoorPI0
import Derived.Test.YtmknfbfppmkcfaaGreatDoorPI3
namespace Go.Proofs.YtmknfbfppmkcfaaGreatDoor
set_option maxRecDepth 100000
set_option maxHeartbeats 16000000
section
open Go.RowKit
section
variable {P:Program} {ops:Array Oper} {Q:Exit->Act->World->Prop} {md:Region.Mode} {S:World->Prop} {t:Nat}
def waitsB (md:Region.Mode) (ops:Array Oper) (U:List Nat) (i j:Nat):Bool:=match ops[j]? with
 | some oj=>oj.after.any (fun e=>Region.binds md e && (e.on == i || U.contains e.on))
 | none=>false
def behind (md:Region.Mode) (ops:Array Oper) (listed:Array Bool) (i:Nat):Nat->List Nat->List Nat
 | 0,U=>U
 | n+1,U=>behind md ops listed i n ((List.range ops.size).filter fun j=> !listed.getD j true && (decide (j≠i) && waitsB md ops U i j))
def okU (md:Region.Mode) (ops:Array Oper) (listed:Array Bool) (i:Nat) (U:List Nat):Bool:=U.all fun j=> !listed.getD j true && (decide (j≠i) && waitsB md ops U i j)
def lateU (ops:Array Oper) (t:Nat) (listed:Array Bool) (i:Nat) (U:List Nat):Bool:=
 (List.range ops.size).all fun j=>listed.getD j true || decide (j=i) || U.contains j || match ops[i]?,ops[j]? with
   | some oi,some oj=>oi.apart ops oj && decide (j<t)
   | _,_=>true
theorem nR {i:Nat} {oi:Oper} {v:Value} {U:List Nat} (hi:ops[i]?=some oi) (hsel:∀(j:Nat) (o:Oper) cs b,ops[j]?=some o->o.op ≠ .select cs b)
 (hQ:∀c a w,Q (.panic c) (a.put oi.dst v) w->Q (.panic c) a w) (hU:∀j∈U,j≠i/\waitsB md ops U i j=true):
 ∀(fuel:Nat) (listed:Array Bool) (a:Act) (w:World),(∀j∈U,listed.getD j true=false)->
  (∀j oj,ops[j]?=some oj->j≠i->listed.getD j true=false->j∉U->oi.apart ops oj=true/\j<t)->
  i∈Region.ready md ops listed->YieldsIf P ops S oi v a->S w->
  wpAnyM P md ops Q S t fuel (listed.setIfInBounds i true) (a.put oi.dst v) w->wpAnyM P md ops Q S t (fuel+1) listed a w:=by
 intro fuel;induction fuel with
 | zero=>
   intro listed a w _ _ hr hy hS H;refine ⟨fun h=>(by rw [h] at hr;cases hr),fun j hj=>?_⟩;by_cases hji:j=i
   ·subst hji;exact hy.wpOp hi hS ⟨fun _=>hS,H⟩
   ·have:=ready_mono hj hji;rw [H.1] at this;cases this
 | succ fuel ih=>
   intro listed a w hUl hfree hr hy hS H;refine ⟨fun h=>(by rw [h] at hr;cases hr),fun j hj=>?_⟩;by_cases hji:j=i
   ·subst hji;exact hy.wpOp hi hS ⟨fun _=>hS,H⟩
   ·have h1:=H.2 j (ready_mono hj hji);obtain ⟨hjun,oj,hoj,hall⟩:=mem_ready.1 hj
    have unl:∀(k:Nat),listed.getD k true=false->listed.getD k false=true->False:=fun k h0 h1=>by
     rcases Nat.lt_or_ge k listed.size with h' | h'
     ·simp [h'] at h0 h1;rw [h0] at h1;cases h1
     ·simp [Array.getElem?_eq_none h'] at h1
    have hnot:j∉U:=fun hm=>by
     obtain ⟨_,hw⟩:=hU j hm;unfold waitsB at hw;rw [hoj] at hw;obtain ⟨e,he,hb⟩:=Array.any_eq_true'.1 hw;simp only [bQ,Bool.or_eq_true,beq_iff_eq] at hb;have h2:=hall e he hb.1;rcases hb.2 with heq | heq
     ·rw [heq] at h2;exact unl i (mem_ready.1 hr).1 (by simpa using h2)
     ·exact unl e.on (hUl e.on (by simpa using heq)) (by simpa using h2)
    have h2:=wpOp_putIf hoj (hfree j oj hoj hji hjun hnot).1 (fun cs b=>hsel i oi cs b hi) (fun cs b=>hsel j oj cs b hoj) hQ hy h1;have hjt:=(hfree j oj hoj hji hjun hnot).2;have hset:∀k,k≠j->(listed.setIfInBounds j true).getD k true=listed.getD k true:=fun k hk=>getD_set_ne true (fun e=>hk e.symm)
    have hUl':∀k∈U,(listed.setIfInBounds j true).getD k true=false:=fun k hk=>by
     rw [hset k (fun e=>hnot (e ▸ hk))];exact hUl k hk
    have hfree':∀k ok,ops[k]?=some ok->k≠i->(listed.setIfInBounds j true).getD k true=false->k∉U->oi.apart ops ok=true/\k<t:=fun k ok hk hki hun hno=>by
     refine hfree k ok hk hki ?_ hno;by_cases hjk:j=k
     ·subst hjk;exact hjun
     ·rw [hset k (fun e=>hjk e.symm)] at hun;exact hun
    refine wpOp_mono (fun a' w' h3=>⟨h3.2.1,ih (listed.setIfInBounds j true) a' w' hUl' hfree' (ready_mono hr (Ne.symm hji)) h3.1 (h3.2.1 hjt) ?_⟩) h2;rw [Array.setIfInBounds_comm _ _ hji];exact h3.2.2
def okO2 (ops:Array Oper) (t:Nat) (ord:List Nat) (k:Nat):Bool:=
 let l:=lstO ops.size ord k
 let i:=ord.getD k 0
 let U:=behind .any ops l i ops.size []
 decide (k<ord.length) && (decide (k<ops.size) && (decide (i<ops.size) && (Region.noSelect ops && (okU .any ops l i U && (lateU ops t l i U && (Region.ready .any ops l).contains i)))))
theorem eI {t:Nat} {ord:List Nat} {k:Nat} {v:Value} {a:Act} {w:World} (hok:okO2 ops t ord k=true) (hQ:∀c a w,Q (.panic c) (a.put ((ops[ord.getD k 0]?).getD default).dst v) w->Q (.panic c) a w)
 (hy:YieldsIf P ops S ((ops[ord.getD k 0]?).getD default) v a) (hS:S w) (h:wpO P ops Q S t ord (k+1) (a.put ((ops[ord.getD k 0]?).getD default).dst v) w):wpO P ops Q S t ord k a w:=by
 simp only [okO2,bQ,decide_eq_true_eq] at hok;obtain ⟨h0,hk0,hk,h1,h2,h3,h4⟩:=hok;have ho:ops[ord.getD k 0]?=some ((ops[ord.getD k 0]?).getD default):=by rw [Array.getElem?_eq_getElem hk];rfl
 unfold wpO at h ⊢;rw [show ops.size - k=(ops.size - (k+1))+1 by omega];have hu:=List.all_eq_true.1 h2;refine nR (U:=behind .any ops (lstO ops.size ord k) (ord.getD k 0) ops.size []) ho (Region.noSelect_spec h1) hQ (fun j hj=>?_) _ _ a w (fun j hj=>?_) (fun j oj hj hne hun hno=>?_) (by simpa using h4) hy hS ?_
 ·have:=hu j hj;simp only [bQ,decide_eq_true_eq] at this;exact this.2
 ·have:=hu j hj;simp only [bQ,Bool.not_eq_true'] at this;exact this.1
 ·have:=List.all_eq_true.1 h3 j (List.mem_range.2 (Array.getElem?_eq_some_iff.1 hj).1);rw [ho,hj] at this;simp only [hun,Bool.false_or,Bool.or_eq_true,decide_eq_true_eq,bQ,List.contains_iff_mem] at this;rcases this with (h5 | h5) | h5
  ·exact absurd h5 hne
  ·exact absurd h5 hno
  ·exact h5
 ·rw [lT h0];exact h
end
end
end Go.Proofs.YtmknfbfppmkcfaaGreatDoor
