/-
  Parts of the proof: A4.
-/
import Derived.Sort.WalkA
import Derived.Test.YtkaigkfbkpinlaaGreatDoorFP0
import Derived.Test.YtkaigkfbkpinlaaGreatDoorFP11
import Derived.WalkMore
import Derived.RangeFuncCalls
namespace Go.Proofs.YtkaigkfbkpinlaaGreatDoor
set_option maxRecDepth 100000
set_option maxHeartbeats 16000000
section
open Go Go.RowKit Go.Shelf
attribute [local go_sem] Oper.semAt_some
def mx2 (x y:Int):Int:=if y > x then y else x
theorem xEQ (x y:Int):mx2 x y=max x y:=by unfold mx2;split <;> omega
def fcMax (f:Fct):Int:=mx2 (mx2 (mx2 (mx2 (f.loans.length:Int) f.edges.length) f.killed.length) f.inval.length) f.live.length
theorem wS (f:Fct):16777216<fcMax f↔fcBig f:=by unfold fcMax fcBig;simp only [xEQ];omega
theorem mR (f:Fct) (fh:FH) (p r:Int) (w:World) (H:FcAt w f fh):
 Calls Tryz.prog 12 #[.agg (fcC f fh).toArray,.int .i64 p,.int .i64 r] w fun e' w'=>e' = .returned (.int .i64 (fctE f p r))/\Below w.heap.size w w':=by
 obtain ⟨A0,c0,A1,c1,A2,c2,A3,c3,A4,c4⟩:=fh;have HH:=aH H;obtain ⟨R,hR⟩:∃R,fctE f p r=R:=⟨_,rfl⟩;rw [hR];have HR:=aH hR;have l0:=H.ln.le;have l1:=H.ed.le;have l2:=H.ki.le;have l3:=H.iv.le;have l4:=H.li.le;have m0:=H.ln.big;have m1:=H.ed.big;have m2:=H.ki.big;have m3:=H.iv.big;have m4:=H.li.big;simp only at l0 l1 l2 l3 l4 m0 m1 m2 m3 m4;obtain ⟨M,hM⟩:∃M,fcMax f=M:=⟨_,rfl⟩;have HMB:=aH (wS f);rw [hM] at HMB;have hmx:∀W,(Builtin.max_ #[3,3,3,3,3] 3 #[.int .i64 f.loans.length,.int .i64 f.edges.length,.int .i64 f.killed.length,.int .i64 f.inval.length,.int .i64 f.live.length]).run Tryz.prog W = .ok (.int .i64 M) W:=fun W=>by rw [<- hM];simp [Builtin.max_,Builtin.max2,fcMax,mx2]
 clear hM hR H;unfold fcC;simp only;refine (callsIn_wide (n:=5)).1 ?_;refine callsIn_of_wp_marks Tryz.func12 rfl trivial ?_ rfl;simp only [Tryz.ntmps12,List.size_toArray,bN,bQ,Nat.reduceAdd,Nat.reduceSub,Array.replicate_succ,Array.replicate_zero,List.push_toArray,List.append_toArray,List.nil_append,List.cons_append];gi_wp2
 refine wpIn_wide.2 (wp_scope_straight ((wpIn_wide (n:=5)).1 ?_));by_cases hb:fcBig f
 case pos=>
  have hM1:16777216<M:=HMB.out.2 hb;have HF:Hid (R=15):=aH (by rw [<- HR.out];unfold fctE;rw [bD hb]);clear hb HMB HR;gi_wp2
  rw [Exit.noGoto_ret];exact ⟨_,results_tmp rfl _ _ _,by rw [HF.out];rfl,(aZ _ _).alloc (bA _) _⟩
 case neg=>
 have hM1:¬16777216<M:=fun h=>hb (HMB.out.1 h)
 have HLN:Hid (∀W,Below w.heap.size w W->_):=aH (fun W hb=>vV f.loans p r A0 c0 W (HH.out.ln.keep RLn.keeps hb));obtain ⟨W1,hW1⟩:∃W,w.alloc (.cells #[.slice A0 f.loans.length c0,.slice A1 f.edges.length c1,.slice A2 f.killed.length c2,.slice A3 f.inval.length c3,.slice A4 f.live.length c4] 25)=W:=⟨_,rfl⟩;have hB1:Below w.heap.size w W1:=by rw [<- hW1];exact (aZ _ _).alloc (bA _) _
 have hN1:W1.heap[w.heap.size]?=some (.cells #[.slice A0 f.loans.length c0,.slice A1 f.edges.length c1,.slice A2 f.killed.length c2,.slice A3 f.inval.length c3,.slice A4 f.live.length c4] 25 (0,0)):=by rw [<- hW1];exact heap_alloc_new w _
 have HN1:=aH hN1;have HB1:=aH hB1;have HTB:Hid (losE p r none f.loans=0->R=tbE (tbsOf f ⟨A0,c0,A1,c1,A2,c2,A3,c3,A4,c4⟩ p r)):=aH (fun h=>by rw [<- HR.out];exact xDG hb h);have HLB:Hid (losE p r none f.loans≠0->R=losE p r none f.loans):=aH (fun h=>by rw [<- HR.out];unfold fctE;rw [bB hb,bD h]);generalize losE p r none f.loans=le at HLN HTB HLB;clear hb HMB HR hN1 hB1;have HX:Hid (∀W,Below W1.heap.size W1 W->∀i v,(#[.slice A0 f.loans.length c0,.slice A1 f.edges.length c1,.slice A2 f.killed.length c2,.slice A3 f.inval.length c3,.slice A4 f.live.length c4]).toList[i]?=some v->W.cell? ⟨w.heap.size,i,none⟩=some v):=aH (fun W hb i v h=>cQ hb (cR (l:=(#[.slice A0 f.loans.length c0,.slice A1 f.edges.length c1,.slice A2 f.killed.length c2,.slice A3 f.inval.length c3,.slice A4 f.live.length c4]).toList) HN1.out i v h));have x0:=HX.out W1 (aZ _ _) 0 _ rfl;have x1:=HX.out W1 (aZ _ _) 1 _ rfl;have x2:=HX.out W1 (aZ _ _) 2 _ rfl;have x3:=HX.out W1 (aZ _ _) 3 _ rfl;have x4:=HX.out W1 (aZ _ _) 4 _ rfl;by_cases hle:le=0
 case neg=>
  have e1:(le != 0)=true:=by simp [hle]
  have HF:=aH (HLB.out hle);clear HLB HTB hle;gi_wp2_with (refine ⟨trivial,?_⟩;gi_at_call 33;refine (callsIn_wide.2 (HLN.out _ HB1.out)).mono ?_;rintro e' w2 ⟨rfl,hb2⟩)
  rw [Exit.noGoto_ret];exact ⟨_,results_tmp rfl _ _ _,by rw [HF.out];rfl,(HB1.out.trans (hb2.mono HB1.out.size)).alloc (cA HB1.out.size hb2.size) _⟩
 case pos=>
 subst hle;have HF:=aH (HTB.out rfl);clear HLB HTB;gi_wp2_with (refine ⟨trivial,?_⟩;gi_at_call 33;refine (callsIn_wide.2 (HLN.out _ HB1.out)).mono ?_;rintro e' w2 ⟨rfl,hb2⟩;have y0:=HX.out w2 hb2 0 _ rfl;have y1:=HX.out w2 hb2 1 _ rfl;have y2:=HX.out w2 hb2 2 _ rfl;have y3:=HX.out w2 hb2 3 _ rfl;have y4:=HX.out w2 hb2 4 _ rfl;have hlt2:w.heap.size<w2.heap.size:=cF w2 _ y0;clear x0 x1 x2 x3 x4)
 refine wpIn_label ?_;gi_wp2_with (refine ⟨trivial,?_⟩;gi_at_call 34;refine (callsIn_wide.2 (mF #[.slice A0 f.loans.length c0,.slice A1 f.edges.length c1,.slice A2 f.killed.length c2,.slice A3 f.inval.length c3,.slice A4 f.live.length c4] _ _ _ rfl ⟨_,_,_,_,_,_,_,_,_,_,_,_,_,_,_,rfl⟩)).mono ?_;rintro e' w' ⟨rfl,rfl⟩)
 obtain ⟨W0,hW0⟩:∃W0,((((w2.alloc (.cells #[.int .i64 0] 28)).alloc (.cells #[.slice A0 f.loans.length c0,.slice A1 f.edges.length c1,.slice A2 f.killed.length c2,.slice A3 f.inval.length c3,.slice A4 f.live.length c4] 25)).alloc (.cells #[.int .i64 p] 3)).alloc (.cells #[.int .i64 r] 3))=W0:=⟨_,rfl⟩;rw [hW0];have hB2:Below w.heap.size w w2:=HB1.out.trans (hb2.mono HB1.out.size);have hn2:w.heap.size<=w2.heap.size:=hB2.size;have hb0:Below w2.heap.size w2 W0:=by rw [<- hW0];exact aJ
 have hB0:Below w.heap.size w W0:=hB2.trans (hb0.mono hn2);have hz0:W0.heap.size=w2.heap.size+1+1+1+1:=by subst hW0;simp
 have z1:W0.heap[w2.heap.size]?=some (.cells #[.int .i64 0] 28 (0,0)):=by
  subst hW0;rw [Below.heap_alloc _ _ _ (by simp only [bK];omega),Below.heap_alloc _ _ _ (by simp only [bK];omega),Below.heap_alloc _ _ _ (by simp only [bK];omega)];exact heap_alloc_new w2 (.cells #[.int .i64 0] 28)
 have u0:W0.cell? ⟨w2.heap.size+1,0,none⟩=some (.slice A0 f.loans.length c0):=by subst hW0;go_simp
 have u1:W0.cell? ⟨w2.heap.size+1,1,none⟩=some (.slice A1 f.edges.length c1):=by subst hW0;go_simp
 have u2:W0.cell? ⟨w2.heap.size+1,2,none⟩=some (.slice A2 f.killed.length c2):=by subst hW0;go_simp
 have u3:W0.cell? ⟨w2.heap.size+1,3,none⟩=some (.slice A3 f.inval.length c3):=by subst hW0;go_simp
 have u4:W0.cell? ⟨w2.heap.size+1,4,none⟩=some (.slice A4 f.live.length c4):=by subst hW0;go_simp
 have up:W0.cell? ⟨w2.heap.size+1+1,0,none⟩=some (.int .i64 p):=by subst hW0;go_simp
 have ur:W0.cell? ⟨w2.heap.size+1+1+1,0,none⟩=some (.int .i64 r):=by subst hW0;go_simp
 have hseq:=xBG (5 - 1) (by omega) A0 A1 A2 A3 A4 f.loans.length c0 c1 c2 c3 c4 f.edges f.killed f.inval f.live p r _ _ _ W0 u0 u1 u2 u3 u4 up ur
 have HSL:Hid (∀t∈tbsOf f ⟨A0,c0,A1,c1,A2,c2,A3,c3,A4,c4⟩ p r,Slc 2 RPr w t.A t.c t.xs):=aH (fun t ht=>by
  unfold tbsOf at ht;simp only [cM,List.not_mem_nil,or_false] at ht;rcases ht with rfl | rfl | rfl | rfl
  ·exact HH.out.ed
  ·exact HH.out.ki
  ·exact HH.out.iv
  ·exact HH.out.li)
 have HTBS:Hid (tbsOf f ⟨A0,c0,A1,c1,A2,c2,A3,c3,A4,c4⟩ p r=[⟨A1,f.edges,c1,p,p⟩,⟨A2,f.killed,c2,f.loans.length,p⟩,⟨A3,f.inval,c3,f.loans.length,p⟩,⟨A4,f.live,c4,r,p⟩]):=aH rfl;rw [<- HTBS.out] at hseq;clear hW0 u0 u1 u2 u3 u4 up ur hmx hb2 hb0 HH HLN HX HN1 HB1 hW1 HTBS hM1 y0 y1 y2 y3 y4 l0 l1 l2 l3 l4 m0 m1 m2 m3 m4;generalize tbsOf f ⟨A0,c0,A1,c1,A2,c2,A3,c3,A4,c4⟩ p r=TS at *
 refine fD rfl (by omega) (gf:=68) (lb:= #[.pointer (some ⟨w2.heap.size+1,0,none⟩),.pointer (some ⟨w2.heap.size+1+1,0,none⟩),.pointer (some ⟨w2.heap.size+1+1+1,0,none⟩)]) rfl trivial (enters_of Tryz.func68 (by kernel_rfl) rfl)
  hseq (aZ _ _) (by rintro k (rfl | rfl | rfl) <;> omega) (fun _=>rfl)
  (fun pre W=>W.heap[w2.heap.size]?=some (.cells #[.int .i64 0] 28 (0,0))/\Below w.heap.size w W/\Hid (∀post,TS=pre ++ post->R=tbE post))
  (fun c _ W=>c = .exit 0/\W.heap[w2.heap.size]?=some (.cells #[.int .i64 R] 28 (0,0))/\Below w.heap.size w W)
  (fun s A B hs ht=>⟨ht.block_low (by omega) hs.1,ht.below (by omega) (by have:=hs.2.1.size;omega) hs.2.1,hs.2.2⟩) (fun c s A B hs ht=>⟨hs.1,ht.block_low (by omega) hs.2.1,ht.below (by omega) (by have:=hs.2.2.size;omega) hs.2.2⟩)
  ⟨z1,hB0,aH (fun post h=>by rw [HF.out,h];rfl)⟩ ?round ?done ?stop
 case round=>
  rintro lr pre x post W hL hlr ⟨rr,hr⟩ hWs ⟨hb,hB,HRx⟩;clear z1 hseq;have HRN:Hid (R=if prsE x.f x.s none x.xs=0 then tbE post else prsE x.f x.s none x.xs):=aH (HRx.out (x :: post) hL)
  have HRZ:Hid (prsE x.f x.s none x.xs=0->∀post',TS=(pre ++ [x]) ++ post'->R=tbE post'):=aH (fun h0 post' h=>by
   rw [hL] at h;have:post=post':=by simpa using h
   rw [HRN.out,bD h0,this])
  have HXS:=aH (HSL.out x (by rw [hL];simp));have hxl:=HXS.out.le;have hxb:=HXS.out.big;obtain ⟨xA,xs,xc,xf,xq⟩:=x;simp only at HRN HRZ HXS hxl hxb;clear HRx hL HSL;simp only [encT,List.zip_toArray,List.zip_cons_cons];gi_wp2
  refine ⟨(Kb.refl _ _ _ _).alloc _,fun W2 hrec=>?_⟩;have hb2:=hrec.cells ((Below.heap_alloc W (.cells #[.slice xA xs.length xc,.int .i64 xf,.int .i64 xq] 66) _ (Array.getElem?_eq_some_iff.1 hb).1).trans hb);have hn2':=hrec.cells (heap_alloc_new W (.cells #[.slice xA xs.length xc,.int .i64 xf,.int .i64 xq] 66));have y0:=cR (l:=[.slice xA xs.length xc,.int .i64 xf,.int .i64 xq]) hn2' 0 _ rfl;have hB2':Below w.heap.size w W2:=(hB.alloc hB.size (.cells #[.slice xA xs.length xc,.int .i64 xf,.int .i64 xq] 66)).trans ⟨hrec.os,hrec.tape,hrec.output,by rw [hrec.size];exact bA _,fun k hk=>hrec.block k (by omega)⟩;have HEB:=aH hb2;have HNB:=aH hn2';have HBB:=aH hB2';have hWe:w2.heap.size<W0.heap.size:=by omega
  clear hb2 hn2' hB2' hr hrec hb hB;gi_wp2
  gi_loopw [44] (fun i wv=>∃k:Nat,k<=xs.length/\i = .int .i64 k/\Hid (wv.heap[w2.heap.size]?=some (.cells #[.int .i64 0] 28 (0,0)))/\Hid (wv.heap[W.heap.size]?=some (.cells #[.slice xA xs.length xc,.int .i64 xf,.int .i64 xq] 66 (0,0)))/\Hid (Below w.heap.size w wv)/\Hid (Kb (Pb (w2.heap.size+1) (w2.heap.size+1+1) (w2.heap.size+1+1+1)) W0.heap.size (fun _=>false) W2 wv)/\Hid (prsE xf xq none xs=prsE xf xq (prevL xs k) (xs.drop k))) (fun i _=>xs.length - (intOf i).toNat)
  case atStart=>exact ⟨0,by omega,rfl,HEB,HNB,HBB,aH (Kb.refl _ _ _ _),aH rfl⟩
  case round=>
   clear HEB HNB HBB y0;obtain ⟨k,hk,rfl,HE,HN,HB,HK,HP⟩:=hrel;by_cases hlt:k<xs.length
   case neg=>
    have HZ:Hid (prsE xf xq none xs=0):=aH (by rw [HP.out,bG (by omega)];rfl);clear HP;gi_wp2
    exact ⟨HK.out,HE.out,HB.out,aH (HRZ.out HZ.out)⟩
   case pos=>
   have hsl:=(HXS.out.keep RPr.keeps HB.out).sl;obtain ⟨b,o,rfl,hb,hx⟩:=hsl.at_ hlt;have HPS:Hid (prevL xs (k+1)=some xs[k]):=aH (by unfold prevL;rw [bB (by omega)];simp [hlt])
   have HQ:Hid (∀j,k=j+1->∃q,prevL xs k=some q/\RPr wr wr.heap.size b (o+j * 2) q):=aH (fun j hj=>by
    obtain ⟨b',o',hbo,_,hz⟩:=hsl.at_ (show j<xs.length by omega);obtain ⟨rfl,rfl⟩:b=b'/\o=o':=by simpa using hbo
    exact ⟨xs[j],by unfold prevL;rw [bB (by omega),show k - 1=j by omega];exact bF (by omega),hz⟩)
   have HPN:Hid (prsE xf xq none xs=if prE xf xq (prevL xs k) xs[k]=0 then prsE xf xq (some xs[k]) (xs.drop (k+1)) else prE xf xq (prevL xs k) xs[k]):=aH (by rw [HP.out,dA hlt,oN]);obtain ⟨x,hxe⟩:∃x,xs[k]=x:=⟨_,rfl⟩;rw [hxe] at hx HPS HPN;obtain ⟨p1,p2⟩:=x;obtain ⟨x0,x1⟩:=hx;simp only at x0 x1;have hsz:=HB.out.size;have y0:=cR (l:= #[.slice (some ⟨b,o,none⟩) xs.length xc,.int .i64 xf,.int .i64 xq].toList) HN.out 0 _ rfl;have y1:=cR (l:= #[.slice (some ⟨b,o,none⟩) xs.length xc,.int .i64 xf,.int .i64 xq].toList) HN.out 1 _ rfl;have y2:=cR (l:= #[.slice (some ⟨b,o,none⟩) xs.length xc,.int .i64 xf,.int .i64 xq].toList) HN.out 2 _ rfl;have ye:=cR (l:=[.int .i64 0]) HE.out 0 _ rfl;have hfe:wr.frozen? ⟨w2.heap.size,0,none⟩=false:=by simp [World.frozen?,HE.out]
   have hlW:W.heap.size<wr.heap.size:=(Array.getElem?_eq_some_iff.1 HN.out).1;have hle:w2.heap.size<wr.heap.size:=(Array.getElem?_eq_some_iff.1 HE.out).1;obtain ⟨WN,hWN⟩:∃W,wr.alloc (.cells #[.int .i64 p1,.int .i64 p2] 42)=W:=⟨_,rfl⟩;have hbn:Below wr.heap.size wr WN:=by rw [<- hWN];exact (aZ _ _).alloc (bA _) _
   obtain ⟨n0,n1⟩:=fO wr (.int .i64 p1) (.int .i64 p2) 42;rw [hWN] at n0 n1;have HBN:=aH hbn;have HB2:=aH (HB.out.trans (hbn.mono hsz));have HE2:Hid (∀X,Below WN.heap.size WN X->X.heap[w2.heap.size]?=some (.cells #[.int .i64 0] 28 (0,0))):=aH (fun X hX=>(hX.block _ (by have:=hbn.size;omega)).trans ((hbn.block _ hle).trans HE.out));have HN2:Hid (∀X,Below WN.heap.size WN X->X.heap[W.heap.size]?=some (.cells #[.slice (some ⟨b,o,none⟩) xs.length xc,.int .i64 xf,.int .i64 xq] 66 (0,0))):=aH (fun X hX=>(hX.block _ (by have:=hbn.size;omega)).trans ((hbn.block _ hlW).trans HN.out));have HK2:Hid (∀X,Below WN.heap.size WN X->Kb (Pb (w2.heap.size+1) (w2.heap.size+1+1) (w2.heap.size+1+1+1)) W0.heap.size (fun _=>false) W2 X):=aH (fun X hX=>(HK.out.then_ hbn).then_ hX);have z0:=cR (l:= #[.slice (some ⟨b,o,none⟩) xs.length xc,.int .i64 xf,.int .i64 xq].toList) (HN2.out WN (aZ _ _)) 0 _ rfl;have z1:=cR (l:= #[.slice (some ⟨b,o,none⟩) xs.length xc,.int .i64 xf,.int .i64 xq].toList) (HN2.out WN (aZ _ _)) 1 _ rfl;have z2:=cR (l:= #[.slice (some ⟨b,o,none⟩) xs.length xc,.int .i64 xf,.int .i64 xq].toList) (HN2.out WN (aZ _ _)) 2 _ rfl;have ze:=cR (l:=[.int .i64 0]) (HE2.out WN (aZ _ _)) 0 _ rfl;have zfe:WN.frozen? ⟨w2.heap.size,0,none⟩=false:=by simp [World.frozen?,HE2.out WN (aZ _ _)]
   clear hsl hxe HP HK HE HN hbn
   have HEX:Hid (∀X (v:Value),Below WN.heap.size WN X->(X.setCell ⟨w2.heap.size,0,none⟩ v).heap[w2.heap.size]?=some (.cells #[v] 28 (0,0))/\Below w.heap.size w (X.setCell ⟨w2.heap.size,0,none⟩ v)/\Kb (Pb (w2.heap.size+1) (w2.heap.size+1+1) (w2.heap.size+1+1+1)) W0.heap.size (fun _=>false) W2 (X.setCell ⟨w2.heap.size,0,none⟩ v)):=aH (fun X v hX=>
    ⟨gF (HE2.out X hX),(HB2.out.trans (hX.mono HB2.out.size)).setCell (p:=⟨w2.heap.size,0,none⟩) (by simp;omega) _,(HK2.out X hX).setLow (p:=⟨w2.heap.size,0,none⟩) _ (by simp [Pb];omega) (by simp;omega)⟩)
   by_cases h1:0<=p1/\p1<xf
   case neg=>
    have HF3:Hid (R=3):=aH (by
     have h3:prsE xf xq none xs=3:=by rw [HPN.out,lG (by simp only;omega)];rfl
     rw [HRN.out,h3];rfl)
    have e1:decide (0<=p1/\p1<xf)=false:=decide_eq_false h1;clear HPN h1 HRN HRZ HQ HPS
    gi_wp2_with (first
     | (refine ⟨trivial,?_⟩;gi_at_call 35;refine (CallsIn.inRound _ (callsIn_wide.2 (iG _ _ _))).mono ?_;rw [e1];rintro e' w1 ⟨rfl,hw⟩;obtain rfl:=hw.symm)
     | refine ⟨trivial,?_⟩)
    obtain ⟨a1,a2,a3⟩:=HEX.out WN (.int .i64 3) (aZ _ _);exact ⟨a3,rfl,by rw [HF3.out];exact a1,a2⟩
   case pos=>
   have e1:decide (0<=p1/\p1<xf)=true:=decide_eq_true h1;by_cases h2:0<=p2/\p2<xq
   case neg=>
    have HF3:Hid (R=3):=aH (by
     have h3:prsE xf xq none xs=3:=by rw [HPN.out,lG (by simp only;omega)];rfl
     rw [HRN.out,h3];rfl)
    have e2:decide (0<=p2/\p2<xq)=false:=decide_eq_false h2;clear HPN h1 h2 HRN HRZ HQ HPS
    gi_wp2_with (first
     | (refine ⟨trivial,?_⟩;gi_at_call 35;refine (CallsIn.inRound _ (callsIn_wide.2 (iG _ _ _))).mono ?_;(first | rw [e1] | rw [e2]);rintro e' w1 ⟨rfl,hw⟩;obtain rfl:=hw.symm)
     | refine ⟨trivial,?_⟩)
    obtain ⟨a1,a2,a3⟩:=HEX.out WN (.int .i64 3) (aZ _ _);exact ⟨a3,rfl,by rw [HF3.out];exact a1,a2⟩
   case pos=>
   have e2:decide (0<=p2/\p2<xq)=true:=decide_eq_true h2;have hrg:¬(p1<0\/xf<=p1\/p2<0\/xq<=p2):=by omega
   rcases (show k=0\/∃j,k=j+1 from by cases k;exact .inl rfl;exact .inr ⟨_,rfl⟩) with rfl | ⟨j,rfl⟩
   ·have HF:Hid (prsE xf xq none xs=prsE xf xq (prevL xs 1) (xs.drop 1)):=aH (by rw [HPN.out,show prevL xs 0=none from rfl,rG hrg,bD rfl,HPS.out]);clear HPN h1 h2 hrg HRN HQ HPS;simp only [Nat.zero_mul,Nat.add_zero] at x0 x1
    gi_wp2_with (first
     | (refine ⟨trivial,?_⟩;gi_at_call 35;refine (CallsIn.inRound _ (callsIn_wide.2 (iG _ _ _))).mono ?_;(first | rw [e1] | rw [e2]);rintro e' w1 ⟨rfl,hw⟩;obtain rfl:=hw.symm)
     | refine ⟨trivial,?_⟩)
    have hS:True:=trivial;refine tJ (S:=fun _=>True) (by kernel_rfl) (by kernel_rfl) (by rintro ⟨_,_,hx⟩;exact hx) ?_;(iterate 3 (refine dG (v:=?_) (by kernel_rfl) (fun _ _ _ h=>h) (Or.inl ⟨by rfl,?_⟩) hS ?_;rotate_left;(next=>(rintro X _;(try simp only [aL]);go_simp;rfl));simp only [aL,Act.put,aM]));(iterate 9 (refine dG (v:=undef) (by kernel_rfl) (fun _ _ _ h=>h) (Or.inr ⟨by rfl,rfl⟩) hS ?_;simp only [aL,Act.put,aM]));((refine dG (v:=?_) (by kernel_rfl) (fun _ _ _ h=>h) (Or.inl ⟨by rfl,?_⟩) hS ?_;rotate_left;(next=>(rintro X _;(try simp only [aL]);go_simp;rfl));simp only [aL,Act.put,aM]))
    refine eO rfl ?_;gi_wp2
    refine ⟨⟨1,by omega,by go_num,aH (HE2.out _ (aZ _ _).drew),aH (HN2.out _ (aZ _ _).drew),aH HB2.out.drew,aH (HK2.out _ (aZ _ _).drew),HF⟩,?_⟩;simp [intOf];omega
   ·obtain ⟨q,hq,q0,q1⟩:=HQ.out j rfl
    have HF:Hid (prsE xf xq none xs=if 0<=cmp2 q (p1,p2) then 21 else prsE xf xq (prevL xs (j+1+1)) (xs.drop (j+1+1))):=aH (by
     rw [HPN.out,hq,rF hrg,HPS.out]
     split <;> simp)
    have HC:=aH (gB q (p1,p2) b (o+j * 2) wr.heap.size 0 WN.drew ((HBN.out.cell (p:=⟨b,o+j * 2,none⟩) hb).trans q0) ((HBN.out.cell (p:=⟨b,o+j * 2+1,none⟩) hb).trans q1) n0 n1);generalize cmp2 q (p1,p2)=cm at HF HC;clear HPN h1 h2 hrg HQ HPS hq q0 q1;have hwk:IntKind.i64.wrap (j:Int)=(j:Int):=by rw [IntKind.wrap_i64];omega
    have hj1:(j:Int)<(xs.length:Int):=by omega
    gi_wp2_with (first
     | (refine ⟨trivial,?_⟩;gi_at_call 35;refine (CallsIn.inRound _ (callsIn_wide.2 (iG _ _ _))).mono ?_;(first | rw [e1] | rw [e2]);rintro e' w1 ⟨rfl,hw⟩;obtain rfl:=hw.symm)
     | refine ⟨trivial,?_⟩)
    have hS:WN.drew.cell? ⟨W.heap.size,0,none⟩=some (.slice (some ⟨b,o,none⟩) xs.length xc):=z0;refine tJ (S:=fun X=>X.cell? ⟨W.heap.size,0,none⟩=some (.slice (some ⟨b,o,none⟩) xs.length xc)) (by kernel_rfl) (by kernel_rfl) (by rintro ⟨_,_,hx⟩;exact hx) ?_;(iterate 10 (refine dG (v:=?_) (by kernel_rfl) (fun _ _ _ h=>h) (Or.inl ⟨by rfl,?_⟩) hS ?_;rotate_left;(next=>(rintro X s0;(try simp only [aL]);go_simp;rfl));simp only [aL,Act.put,aM]));(refine pL (by kernel_rfl) (fun K1 hK1=>?_);simp only [aL,Act.put,aM];rw [bD (by rfl)];go_simp);refine HC.out.mono ?_;rintro e' w3 ⟨rfl,hw⟩;obtain rfl:=hw.symm;refine hK1.out _ _ (fun _=>hS) ?_;(iterate 2 (refine dG (v:=?_) (by kernel_rfl) (fun _ _ _ h=>h) (Or.inl ⟨by rfl,?_⟩) hS ?_;rotate_left;(next=>(rintro X _;(try simp only [aL]);go_simp;rfl));simp only [aL,Act.put,aM]));refine eO rfl ?_;by_cases hcm:0<=cm
    ·have HF3:Hid (R=21):=aH (by
      have h3:prsE xf xq none xs=21:=by rw [HF.out,bD hcm]
      rw [HRN.out,h3];rfl)
     clear HF HRN HRZ;have hcm1:decide (0<=cm)=true:=decide_eq_true hcm;gi_wp2
     obtain ⟨a1,a2,a3⟩:=HEX.out WN (.int .i64 21) (aZ _ _);rw [hz0] at a3;exact ⟨a3.drew,rfl,by rw [HF3.out];exact a1,a2.drew⟩
    ·have HF':Hid (prsE xf xq none xs=prsE xf xq (prevL xs (j+1+1)) (xs.drop (j+1+1))):=aH (by rw [HF.out,bB hcm]);clear HF;have hcm1:decide (0<=cm)=false:=decide_eq_false hcm;gi_wp2
     refine ⟨⟨j+1+1,by omega,by go_num,aH (HE2.out _ (aZ _ _).drew),aH (HN2.out _ (aZ _ _).drew),aH HB2.out.drew,aH (HK2.out _ (aZ _ _).drew),HF'⟩,?_⟩;simp [intOf];omega
 case done=>
  rintro D W hD ⟨hb,hB,HRx⟩ hK;have y0:=cR (l:=[.int .i64 0]) hb 0 _ rfl;have HF2:Hid (R=0):=aH (HRx.out [] (by simp));gi_wp2
  rw [Exit.noGoto_ret];refine ⟨by simp,.inl ⟨_,_,rfl,run_takeDeferred (w:=W) hK,?_⟩⟩;exact ⟨_,results_tmp rfl _ _ _,by rw [HF2.out];rfl,below_put hB (by omega)⟩
 case stop=>
  rintro D c pre x post W hD hL ⟨rfl,hb,hB⟩ hK;have y0:=cR (l:=[.int .i64 R]) hb 0 _ rfl;gi_wp2
  rw [Exit.noGoto_ret];refine ⟨by simp,.inl ⟨_,_,rfl,run_takeDeferred (w:=W) hK,?_⟩⟩;exact ⟨_,results_tmp rfl _ _ _,rfl,below_put hB (by omega)⟩
end
end Go.Proofs.YtkaigkfbkpinlaaGreatDoor
