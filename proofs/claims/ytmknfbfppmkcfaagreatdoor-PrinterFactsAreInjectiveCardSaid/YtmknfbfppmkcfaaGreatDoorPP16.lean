/-
  Parts of the proof: A3.
-/
import Derived.Test.YtmknfbfppmkcfaaGreatDoorPP0
import Derived.Test.YtmknfbfppmkcfaaGreatDoorPP3
import Derived.Test.YtmknfbfppmkcfaaGreatDoorPP2
namespace Go.Proofs.YtmknfbfppmkcfaaGreatDoor
set_option maxRecDepth 100000
set_option maxHeartbeats 16000000
section
open Go Go.RowKit Go.Shelf
attribute [local go_sem] Oper.semAt_some
def encT (t:Tb):Array Value:= #[.agg #[.slice t.A t.xs.length t.c,.int .i64 t.f,.int .i64 t.s]]
theorem eE {N:Nat->Prop} {D:Nat} {T:TypeId->Bool} {A B:World} (h:Kb N D T A B) {p:Addr} {v:Value} (hN:N p.block) (hc:A.cell? p=some v):B.cell? p=some v:=
 (World.cell?_of_block (h.low _ hN (cD A p hc))).trans hc
def Pb (bf bp br:Nat):Nat->Prop:=fun k=>k=bf\/k=bp\/k=br
theorem pB (V:Array Value) (p r:Int) (w:World) (hV:V.size=5) (hE:∃A0 n0 c0 A1 n1 c1 A2 n2 c2 A3 n3 c3 A4 n4 c4,V = #[.slice A0 n0 c0,.slice A1 n1 c1,.slice A2 n2 c2,.slice A3 n3 c3,.slice A4 n4 c4]):
 Calls Tryz.prog 87 #[.agg V,.int .i64 p,.int .i64 r] w fun e' w'=>e' = .returned (.func (.func 136) #[] #[.pointer (some ⟨w.heap.size,0,none⟩),.pointer (some ⟨w.heap.size+1,0,none⟩),.pointer (some ⟨w.heap.size+1+1,0,none⟩)])/\
  w'=((w.alloc (.cells V 39)).alloc (.cells #[.int .i64 p] 3)).alloc (.cells #[.int .i64 r] 3):=by
 obtain ⟨A0,n0,c0,A1,n1,c1,A2,n2,c2,A3,n3,c3,A4,n4,c4,rfl⟩:=hE;clear hV;go_enter Tryz.func87,Tryz.ntmps87
 go_wp2
 go_ret;exact ⟨rfl,rfl⟩
theorem zB (n:Nat) (hn:1<=n) (A0 A1 A2 A3 A4:Option Addr) (n0 c0 c1 c2 c3 c4:Nat) (x1 x2 x3 x4:List (Int × Int)) (p r:Int) (bf bp br:Nat) (w:World)
 (h0:w.cell? ⟨bf,0,none⟩=some (.slice A0 n0 c0)) (h1:w.cell? ⟨bf,1,none⟩=some (.slice A1 x1.length c1)) (h2:w.cell? ⟨bf,2,none⟩=some (.slice A2 x2.length c2)) (h3:w.cell? ⟨bf,3,none⟩=some (.slice A3 x3.length c3)) (h4:w.cell? ⟨bf,4,none⟩=some (.slice A4 x4.length c4))
 (hp:w.cell? ⟨bp,0,none⟩=some (.int .i64 p)) (hr:w.cell? ⟨br,0,none⟩=some (.int .i64 r)):
 SeqL Fence.wide n Tryz.prog 136 #[.pointer (some ⟨bf,0,none⟩),.pointer (some ⟨bp,0,none⟩),.pointer (some ⟨br,0,none⟩)] encT (fun _=>false) (Pb bf bp br) [⟨A1,x1,c1,p,p⟩,⟨A2,x2,c2,n0,p⟩,⟨A3,x3,c3,n0,p⟩,⟨A4,x4,c4,r,p⟩] w:=by
 intro l J Jx W hW hJ hJx hY hJ0;have g0:=cJ hW h0;have g1:=cJ hW h1;have gp:=cJ hW hp;have G2:=aF (cJ hW h2);have G3:=aF (cJ hW h3);have G4:=aF (cJ hW h4);have GR:=aF (cJ hW hr);clear h0 h1 h2 h3 h4 hp hr;(refine callsIn_of_wp Tryz.func136 rfl trivial ?_ rfl;simp only [Tryz.ntmps136,List.size_toArray,bK,bP,Nat.reduceAdd,Nat.reduceSub,Array.replicate_succ,Array.replicate_zero,List.push_toArray,List.append_toArray,List.nil_append,List.cons_append]);obtain ⟨fn,tmps,assign,body,hy,hR⟩:=hY [] ⟨A1,x1,c1,p,p⟩ [⟨A2,x2,c2,n0,p⟩,⟨A3,x3,c3,n0,p⟩,⟨A4,x4,c4,r,p⟩] W rfl hJ0;rw [show encT ⟨A1,x1,c1,p,p⟩ = #[.agg #[.slice A1 x1.length c1,.int .i64 p,.int .i64 p]] from rfl] at hy;gi_wp2
 refine hR.mono ?_;clear hy hR;rintro e W1 (⟨rfl,hJ1,hK1⟩ | ⟨rfl,hJx1⟩)
 case inr=>
  gi_wp2
  refine ⟨by simp,?_⟩;gi_wp2
  go_end0
  exact ⟨⟨_,rfl⟩,.inr ⟨[],_,_,rfl,hJx1⟩⟩
 have gp1:=eE hK1 (Or.inr (Or.inl rfl)) gp;have g2:=eE hK1 (Or.inl rfl) G2.out;have G3b:=aF (eE hK1 (Or.inl rfl) G3.out);have G4b:=aF (eE hK1 (Or.inl rfl) G4.out);have GRb:=aF (eE hK1 (Or.inr (Or.inr rfl)) GR.out);clear G2 G3 G4 GR g0 g1 gp hK1 hJ0;obtain ⟨fn,tmps,assign,body,hy,hR⟩:=hY _ ⟨A2,x2,c2,n0,p⟩ [⟨A3,x3,c3,n0,p⟩,⟨A4,x4,c4,r,p⟩] W1 rfl hJ1;rw [show encT ⟨A2,x2,c2,n0,p⟩ = #[.agg #[.slice A2 x2.length c2,.int .i64 n0,.int .i64 p]] from rfl] at hy;gi_wp2
 refine hR.mono ?_;clear hy hR;rintro e W2 (⟨rfl,hJ2,hK2⟩ | ⟨rfl,hJx2⟩)
 case inr=>
  gi_wp2
  refine ⟨by simp,?_⟩;gi_wp2
  go_end0
  exact ⟨⟨_,rfl⟩,.inr ⟨[_],_,_,rfl,hJx2⟩⟩
 have gp2:=eE hK2 (Or.inr (Or.inl rfl)) gp1;have g3:=eE hK2 (Or.inl rfl) G3b.out;have G4c:=aF (eE hK2 (Or.inl rfl) G4b.out);have GRc:=aF (eE hK2 (Or.inr (Or.inr rfl)) GRb.out);clear G3b G4b GRb g2 gp1 hK2 hJ1;obtain ⟨fn,tmps,assign,body,hy,hR⟩:=hY _ ⟨A3,x3,c3,n0,p⟩ [⟨A4,x4,c4,r,p⟩] W2 rfl hJ2;rw [show encT ⟨A3,x3,c3,n0,p⟩ = #[.agg #[.slice A3 x3.length c3,.int .i64 n0,.int .i64 p]] from rfl] at hy;gi_wp2
 refine hR.mono ?_;clear hy hR;rintro e W3 (⟨rfl,hJ3,hK3⟩ | ⟨rfl,hJx3⟩)
 case inr=>
  gi_wp2
  refine ⟨by simp,?_⟩;gi_wp2
  go_end0
  exact ⟨⟨_,rfl⟩,.inr ⟨[_,_],_,_,rfl,hJx3⟩⟩
 have gp3:=eE hK3 (Or.inr (Or.inl rfl)) gp2;have g4:=eE hK3 (Or.inl rfl) G4c.out;have gr:=eE hK3 (Or.inr (Or.inr rfl)) GRc.out;clear G4c GRc g3 gp2 hK3 hJ2;obtain ⟨fn,tmps,assign,body,hy,hR⟩:=hY _ ⟨A4,x4,c4,r,p⟩ [] W3 rfl hJ3;rw [show encT ⟨A4,x4,c4,r,p⟩ = #[.agg #[.slice A4 x4.length c4,.int .i64 r,.int .i64 p]] from rfl] at hy;gi_wp2
 refine hR.mono ?_;clear hy hR;rintro e W4 (⟨rfl,hJ4,_⟩ | ⟨rfl,hJx4⟩)
 ·gi_wp2
  go_end0
  exact ⟨⟨_,rfl⟩,.inl hJ4⟩
 ·gi_wp2
  go_end0
  exact ⟨⟨_,rfl⟩,.inr ⟨[_,_,_],_,_,rfl,hJx4⟩⟩
end
end Go.Proofs.YtmknfbfppmkcfaaGreatDoor
