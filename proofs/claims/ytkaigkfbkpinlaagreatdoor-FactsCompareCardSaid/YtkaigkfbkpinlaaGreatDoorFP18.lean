/-
  Parts of the proof: KD KW KX.
-/
import Derived.Sort.WalkA
import Derived.Test.YtkaigkfbkpinlaaGreatDoorFP0
import Derived.Test.YtkaigkfbkpinlaaGreatDoorFP17
import Derived.Test.YtkaigkfbkpinlaaGreatDoorFP6
import Derived.Test.YtkaigkfbkpinlaaGreatDoorFP16
namespace Go.Proofs.YtkaigkfbkpinlaaGreatDoor
set_option maxRecDepth 100000
set_option maxHeartbeats 16000000
section
open Go Go.RowKit Go.Maps
attribute [local irreducible] Calls
theorem zY:(Tryz.prog.info? 198).map (fun i=>(i.zero,i.size,i.bytes))=some (some (.map none),1,8):=by kernel_rfl
theorem xDA:(Tryz.prog.info? 200).map (fun i=>(i.zero,i.size,i.bytes))=some (some (.agg #[.map none,.int .i64 0,.bool false]),3,24):=by kernel_rfl
theorem lO (n:Nat) (hn:n<=1000) (W:World):(Instr.makeSlice 141 (.int .i64 (n:Int)) (.int .i64 (n:Int))).run Tryz.prog W = .ok (.slice (some ⟨W.heap.size,0,none⟩) n n) (W.alloc (.cells (rowA n (fun _=> .slice none 0 0)) 48)):=by
 obtain ⟨ib,hib,hbz,hbs,hby⟩:=info_parts xEV;have:=fQ (P:=Tryz.prog) W 141 48 ib (.slice none 0 0) #[.slice none 0 0] 1 Tryz.underlying141 hib hbz rfl hbs n (by rw [hby];omega) (by omega);rw [this,Nat.mul_one];congr 4
 funext j
 simp [Nat.mod_one]
theorem vS (n:Nat) (hn:n<=1000) (W:World):(Instr.makeSlice 197 (.int .i64 (n:Int)) (.int .i64 (n:Int))).run Tryz.prog W = .ok (.slice (some ⟨W.heap.size,0,none⟩) n n) (W.alloc (.cells (rowA n (lvF (fun _=>0) 0)) 198)):=by
 obtain ⟨ib,hib,hbz,hbs,hby⟩:=info_parts zY;have:=fQ (P:=Tryz.prog) W 197 198 ib (.map none) #[.map none] 1 Tryz.underlying197 hib hbz rfl hbs n (by rw [hby];omega) (by omega);rw [this,Nat.mul_one];congr 4
 funext j
 simp [Nat.mod_one,lvF]
theorem oY (n:Nat) (hn:n<=1000) (W:World):(Instr.makeSlice 196 (.int .i64 (n:Int)) (.int .i64 (n:Int))).run Tryz.prog W = .ok (.slice (some ⟨W.heap.size,0,none⟩) n n) (W.alloc (.cells (rowA (n * 3) (efF (fun _=>(none,0,false)))) 200)):=by
 obtain ⟨ib,hib,hbz,hbs,hby⟩:=info_parts xDA;have:=fQ (P:=Tryz.prog) W 196 200 ib (.agg #[.map none,.int .i64 0,.bool false]) #[.map none,.int .i64 0,.bool false] 3 Tryz.underlying196 hib hbz rfl hbs n (by rw [hby];omega) (by omega);rw [this];congr 4
 funext j
 unfold efF;rcases (show j % 3=0\/j % 3=1\/j % 3=2 by omega) with h | h | h
 ·simp [h]
 ·simp [h]
 ·simp [h]
def Row3 (n:Nat) (w:World) (g2 g3:Nat) (W:World):Prop:=
 RowF W g2 (n * 3) 200 (efF (fun _=>(none,0,false)))/\RowF W g3 n 198 (lvF (fun _=>0) 0)/\Below w.heap.size w W/\w.heap.size<=g2/\w.heap.size<=g3
theorem xEG (n:Nat) (w:World):Row3 n w w.heap.size (w.heap.size+1) ((w.alloc (.cells (rowA (n * 3) (efF (fun _=>(none,0,false)))) 200)).alloc (.cells (rowA n (lvF (fun _=>0) 0)) 198)):=by
 have h1:=RowF.new w (n * 3) 200 (efF (fun _=>(none,0,false)));have h2:=RowF.new (w.alloc (.cells (rowA (n * 3) (efF (fun _=>(none,0,false)))) 200)) n 198 (lvF (fun _=>0) 0);rw [bK] at h2;exact ⟨h1.block (((aZ _ _).alloc (bA _) _).block _ h1.lt),h2,((aZ _ _).alloc (bA _) _).alloc (by simp) _,bA _,by omega⟩
theorem xEF (n:Nat) (w:World):Row3 n w (w.heap.size+1) w.heap.size ((w.alloc (.cells (rowA n (lvF (fun _=>0) 0)) 198)).alloc (.cells (rowA (n * 3) (efF (fun _=>(none,0,false)))) 200)):=by
 have h1:=RowF.new w n 198 (lvF (fun _=>0) 0);have h2:=RowF.new (w.alloc (.cells (rowA n (lvF (fun _=>0) 0)) 198)) (n * 3) 200 (efF (fun _=>(none,0,false)));rw [bK] at h2;exact ⟨h2,h1.block (((aZ _ _).alloc (bA _) _).block _ h1.lt),((aZ _ _).alloc (bA _) _).alloc (by simp) _,by omega,bA _⟩
theorem zO {M n t k k2:Nat} (ht:t+1<=M) (hk:k2<=k+n):msW M n (t+1) k2<msW M n t (k+1):=by
 unfold msW;have:(M - t) * (n+1)=(M - (t+1)) * (n+1)+(n+1):=by rw [<- Nat.succ_mul];congr 1;omega
 omega
theorem Row3.drew {n:Nat} {w:World} {a b:Nat} {W:World} (h:Row3 n w a b W):Row3 n w a b W.drew:=⟨h.1,h.2.1,h.2.2.1.drew,h.2.2.2⟩
theorem xW {n u t k:Nat} (hn:n<=1000) (hu:u<=1000) (ht:t<=n * u) (hk:k<=(n+1) * u+t * n):k<=2000000000:=by
 have h1:n * u<=1000 * 1000:=Nat.mul_le_mul hn hu;have h2:(n+1) * u<=1001 * 1000:=Nat.mul_le_mul (by omega) hu;have h3:t * n<=1000000 * 1000:=Nat.mul_le_mul (by omega) hn;omega
def EvOk (bs:List Blk) (EV:Nat->Option Nat × Int × Bool) (m:Nat):Prop:=∀p,p<m->dfP bs (p:Int)=if (EV p).2.2 then some (EV p).2.1 else none
theorem EvOk.step {bs:List Blk} {EV:Nat->Option Nat × Int × Bool} {m:Nat} (h:EvOk bs EV m) (mp:Option Nat) (d:Int) (hd:Bool) (e:dfP bs (m:Int)=if hd then some d else none):EvOk bs (updE EV m (mp,d,hd)) (m+1):=fun p hp=>by
 unfold updE;by_cases h2:p=m
 ·subst h2;rw [bD rfl];exact e
 ·rw [bB h2];exact h p (by omega)
theorem RngI.grow {W W':World} {mb r k:Nat} {sl:List Int} {left:Int->Bool} {cnt:Nat} (h:RngI W mb r k sl left cnt) {base m:Nat} {v:Value} {xs:List Value} (ho:W.ownsRow base 42 2 v m xs) (hg:W.grownBy W' v.ownBlock):RngI W' mb r k sl left cnt:=by
 obtain ⟨a1,a2,a3,a4,hi⟩:=h.iter;obtain ⟨c1,c2,hm⟩:=h.mobj;refine h.kept (hg.block _ h.lt.2.1 (fun e=>?_)) (hg.block _ h.lt.1 (fun e=>?_))
 ·obtain ⟨cur,hc⟩:=fH ho e.symm;rw [hm] at hc;cases hc
 ·obtain ⟨cur,hc⟩:=fH ho e.symm;rw [hi] at hc;cases hc
theorem zE {W:World} {base:Nat} {v:Value} {wk:List (Int × Int)} {p x:Int} (h:W.ownsRow base 42 2 v (wk ++ [(p,x)]).length ((wk ++ [(p,x)]).flatMap prC)):
 ∃g cap,v = .slice (some ⟨g,0,none⟩) (wk.length+1) cap/\wk.length+1<=cap/\cap<=maxLen/\W.cell? ⟨g,wk.length * 2,none⟩=some (.int .i64 p)/\W.cell? ⟨g,wk.length * 2+1,none⟩=some (.int .i64 x)/\W.ownsRow base 42 2 (.slice (some ⟨g,0,none⟩) wk.length cap) wk.length (wk.flatMap prC):=by
 rw [bE,cI,cC] at h
 have hl:(wk.flatMap prC).length=wk.length * 2:=by
  have:=h.1;simp [prC] at this ⊢;omega
 have h0:=h;rcases h.2 with ⟨_,hz⟩ | ⟨g,cap,cur,rfl,hb,hh,hn,hm,hs,ht⟩
 ·omega
 have c0:=h0.cells (g:=g) rfl (wk.length * 2) (.int .i64 p) (by rw [List.getElem?_append_right (by omega),hl];simp [prC]);have c1:=h0.cells (g:=g) rfl (wk.length * 2+1) (.int .i64 x) (by rw [List.getElem?_append_right (by omega),hl,show wk.length * 2+1 - wk.length * 2=1 by omega];simp [prC]);rw [add0] at c0 c1;exact ⟨g,cap,rfl,hn,hm,c0,c1,ownsRow_pop hl h0⟩
theorem lI {w:World} {base:Nat} {v:Value} {s:List (Int × Int)} {x:Int × Int} (h:w.ownsRow base 42 2 v (s.length+1) (s.flatMap prC ++ prC x)):w.ownsRow base 42 2 v (s ++ [x]).length ((s ++ [x]).flatMap prC):=by
 rw [bE,cC];simpa using h
theorem iT (w:World) {ops:Array Oper} {rest:List Oper} {o:Oper} {a:Act} {Q:Exit->Act->World->Prop} (hg:o.guard=none) (it:Operand) (hop:o.op=Op.next it false) (b r n:Nat) (sl:List Int) (left:Int->Bool) (cnt:Nat)
 (hit:a.eval it = .pointer (some ⟨r,0,none⟩)) (h:RngI w b r n sl left cnt)
 (hDone:(∀x,left x=false)->wpList Tryz.prog ops Q rest (a.put o.dst (.tuple #[.bool false])) w)
 (hMore:∀(x:Int) (c:Value) (w':World) (cnt':Nat),(Lit.int .i64 x).wf=true->left x=true->x∈sl->RngI w' b r n sl (fun z=>left z && decide (z≠x)) cnt'->cnt'<cnt->
   w.grownBy w' (some r)->w'.heap.size=w.heap.size->(Instr.entry (.pointer (some ⟨r,0,none⟩))).run Tryz.prog w' = .ok (.tuple #[.int .i64 x,c]) w'->wpList Tryz.prog ops Q rest (a.put o.dst (.tuple #[.bool true,.int .i64 x,c])) w'):
 wpList Tryz.prog ops Q (o :: rest) a w:=
 nZ w hg it hop b r n sl left cnt hit h hDone (fun x c w' cnt'=>hMore x (.bool c) w' cnt')
def CutM (b:Bdy) (bh:BH) (w:World) (n b0 b1 g2 g3:Nat) (BE:Nat->List Int) (F:Nat->Value) (EV:Nat->Option Nat × Int × Bool) (m:Nat) (MB:Nat->Nat) (v:Value) (wk:List (Int × Int)) (W:World):Prop:=
 ∃(mb g:Nat) (sl:List Int) (d:Int) (hd:Bool),LcW b bh w n b0 b1 g2 g3 BE F (updE EV m (some mb,d,hd)) (m+1) (fun _=>[]) (updM MB m g) W/\EvOk b.blocks (updE EV m (some mb,d,hd)) (m+1)/\W.ownsRow b0 42 2 v wk.length (wk.flatMap prC)/\OwnI W mb 1000000 sl/\(∀z,z∈sl↔z∈usP b.blocks (m:Int))/\w.heap.size<=mb
theorem xAN {b:Bdy} {bh:BH} {w:World} {n b0 b1 g2 g3:Nat} {BE:Nat->List Int} {F:Nat->Value} {EV:Nat->Option Nat × Int × Bool} {m:Nat} {MB:Nat->Nat} {v:Value} {wk:List (Int × Int)} {W:World}
 (h:LcW b bh w n b0 b1 g2 g3 BE F EV m (fun _=>[]) MB W) (hE:EvOk b.blocks EV m) (hw:W.ownsRow b0 42 2 v wk.length (wk.flatMap prC)) {mb:Nat} {sl:List Int} {d:Int} {hd:Bool} (ho:OwnI W mb 1000000 sl) (hm:∀z,z∈sl↔z∈usP b.blocks (m:Int)) (hdd:dfP b.blocks (m:Int)=if hd then some d else none) (hmb:w.heap.size<=mb):
 CutM b bh w n b0 b1 g2 g3 BE F EV m MB v wk (((((W.setCell ⟨g2,m * 3,none⟩ (.map (some mb))).setCell ⟨g2,m * 3+1,none⟩ (.int .i64 d)).setCell ⟨g2,m * 3+2,none⟩ (.bool hd)).setCell ⟨g3,m,none⟩ (.map (some W.heap.size))).alloc (.map #[] 0)):=by
 have h1:=h.eset m (some mb) d hd;have w1:=h.eset_row hw m (.map (some mb)) (.int .i64 d) (.bool hd);have o1:=h.eset_map ho m (.map (some mb)) (.int .i64 d) (.bool hd);have hsz:(((W.setCell ⟨g2,m * 3,none⟩ (.map (some mb))).setCell ⟨g2,m * 3+1,none⟩ (.int .i64 d)).setCell ⟨g2,m * 3+2,none⟩ (.bool hd)).heap.size=W.heap.size:=by simp
 have hlt:=h.lt2;generalize ((W.setCell ⟨g2,m * 3,none⟩ (.map (some mb))).setCell ⟨g2,m * 3+1,none⟩ (.int .i64 d)).setCell ⟨g2,m * 3+2,none⟩ (.bool hd)=A at *;have e:=World.setCell_alloc_past (w:=A) (.map #[] 0) g3 m (.map (some W.heap.size)) (by omega);rw [<- e];have h2:=h1.keep (alF A (.map #[] 0));have om:=(OwnI.made A).mono (m:=1000000) (by omega);rw [hsz] at om
 have h3:=h2.lset rfl om (fun j hj e=>by
  have:=(h.maps j hj).lt
  omega) (by omega)
 exact ⟨mb,W.heap.size,sl,d,hd,h3,hE.step _ _ _ hdd,h2.lset_row (w1.alloc _) m _,h2.lset_map (o1.alloc _) m _,hm,hmb⟩
theorem LcW.ne23 {b:Bdy} {bh:BH} {w:World} {n b0 b1 g2 g3:Nat} {BE:Nat->List Int} {F:Nat->Value} {EV:Nat->Option Nat × Int × Bool} {m:Nat} {L:Int->List Int} {MB:Nat->Nat} {W:World} (h:LcW b bh w n b0 b1 g2 g3 BE F EV m L MB W):g2≠g3:=fun e=>by
 subst e;have h1:=h.eff;have h2:=h.liv;unfold RowF at h1 h2;rw [h1] at h2;injection h2 with h2
 injection h2 with _ h2
 exact absurd h2 (by decide)
theorem pW (b:Bdy) (bh:BH) (w:World) (U:List Int) (H:BdAt w b bh) (hc:cntB b.blocks<=1000) (hl:b.blocks.length<=1000000) (ht:∀x∈b.blocks,x.term.targets.length<=1000000000000) (hu:∀p,∀z∈usP b.blocks p,z∈U/\Sml z) (hU:U.length<=1000):
 Calls Tryz.prog 83 #[.agg (bdC b bh).toArray] w fun e' w'=>∃A c ll,e' = .returned (.slice A ll.length c)/\ll.length=cntB b.blocks/\(∀(k:Nat) (l:List Int),ll[k]?=some l->Srt l (fun z=>Lv b.blocks z (k:Int)))/\Slc 1 (RSl 1 RInt) w' A c ll/\Below w.heap.size w w':=by
 have HC:=aH (fun (W:World) (hb:Below w.heap.size w W)=>zC b bh W (H.keep hb) (by omega) hl);have HG:=aH (fun (W:World) (hb:Below w.heap.size w W)=>pD b bh W (H.keep hb) (by omega) hl ht);have HAT:=aH (fun (W:World) (hb:Below w.heap.size w W) (p:Int) hp=>xFC b bh p W (H.keep hb) (by omega) hp (fun z hz=>(hu p z hz).2));have HY:=aH (cT w [Value.string b.name,.slice bh.A1 b.regions.length bh.c1,.slice bh.A2 b.outl.length bh.c2,.slice bh.A3 b.types.length bh.c3,.slice bh.A4 b.locals.length bh.c4,.int .i64 b.args,.slice bh.A5 b.blocks.length bh.c5] 59);have HUU:=aH hu;obtain ⟨i0,hi0,hz0,hz1,hz2⟩:=info_parts dV;obtain ⟨q0,hq0,hq1,hq2,hq3⟩:=info_parts wH;have hmm:= @run_makeMap Tryz.prog;clear H ht hu hl;unfold bdC at *;obtain ⟨n,hn⟩:∃n,cntB b.blocks=n:=⟨_,rfl⟩;have HNE:=aH hn;rw [hn] at hc ⊢;rw [hn] at HC;have hmk1:=lO n hc;clear hn;obtain ⟨W0,hW0⟩:∃W,w.alloc (.cells ([Value.string b.name,.slice bh.A1 b.regions.length bh.c1,.slice bh.A2 b.outl.length bh.c2,.slice bh.A3 b.types.length bh.c3,.slice bh.A4 b.locals.length bh.c4,.int .i64 b.args,.slice bh.A5 b.blocks.length bh.c5]).toArray 59)=W:=⟨_,rfl⟩;have hbox:W0.heap[w.heap.size]?=some (.cells ((bdH b bh [])).toArray 59 (0,0)):=by rw [<- hW0];exact heap_alloc_new _ _
 have hb0:Below w.heap.size w W0:=by rw [<- hW0];exact (aZ _ _).alloc (bA _) _
 have HBX:=aH hbox;have HB0:=aH hb0;have yy:=fun i v h=>cR hbox i v h
 have y0:=yy 0 _ rfl;have y1:=yy 1 _ rfl;have y2:=yy 2 _ rfl;have y3:=yy 3 _ rfl;have y4:=yy 4 _ rfl;have y5:=yy 5 _ rfl;have y6:=yy 6 _ rfl;clear hbox hb0 HY yy;go_enter Tryz.func83,Tryz.ntmps83
 go_wp2_with fail
 go_step3
 go_wp2_with (first
  | (go_at_call 63;refine (HG.out _ (HB1.out.alloc HB1.out.size _)).mono ?_;rintro e' w3 ⟨A,c,E,rfl,hE,hs3,hb3⟩;clear y0 y1 y2 y3 y4 y5 y6)
  | (go_at_call 64;refine (HC.out _ HB0.out).mono ?_;rintro e' w1 ⟨rfl,hb1⟩;have HB1:=aH (HB0.out.trans (hb1.mono HB0.out.size));have HBX1:=aH ((hb1.block _ (Array.getElem?_eq_some_iff.1 HBX.out).1).trans HBX.out);have hw1:w.heap.size<w1.heap.size:=(Array.getElem?_eq_some_iff.1 HBX1.out).1;replace y0:=cQ hb1 y0;replace y1:=cQ hb1 y1;replace y2:=cQ hb1 y2;replace y3:=cQ hb1 y3;replace y4:=cQ hb1 y4;replace y5:=cQ hb1 y5;replace y6:=cQ hb1 y6;clear hb1))
 have hnew:=RowsI.new w1 n 48 (fun _=> .slice none 0 0) (fun _=>rfl) w1.heap.size rfl;have hal:=alF w1 (.cells (rowA n (fun _=> .slice none 0 0)) 48);have HR3:=aH (hnew.keep hb3).nil_base;have HX3:=aH ((hb3.block _ (by simp;omega)).trans ((hal.block _ hw1).trans HBX1.out));have HB3:=aH ((HB1.out.trans (hal.mono HB1.out.size)).trans (hb3.mono (by simp;omega)));have hw13:w1.heap.size<w3.heap.size:=HR3.out.head.lt;have HE:=aH hE;have HS3:=aH hs3;have hsle:=hs3.le;have hsbg:=hs3.big;obtain ⟨b0,hb0⟩:∃b0,w3.heap.size=b0:=⟨_,rfl⟩;rw [hb0] at HR3 hw13;have HB0E:=aH hb0;obtain ⟨b1,hb1⟩:∃b1,w1.heap.size=b1:=⟨_,rfl⟩;rw [hb1] at HR3 hw13 hw1 ⊢;clear hnew hal hE hs3 hb3 HBX HBX1 HB0 HB1 hb0 hb1 HC HG;go_loopw [6,26] (fun _ i wr=>∃(k:Nat) (F:Nat->Value),i = .int .i64 k/\k<=E.length/\Hid (RowsI wr b0 b1 n 48 (befL (E.take k)) F)/\Hid (Eb w3 b1 wr)) (fun _ i _=>E.length - (intOf i).toNat)
 case atStart=>exact ⟨0,_,rfl,by omega,HR3,aH (Eb.refl _ _)⟩
 case round=>
  obtain ⟨k,F,rfl,hk,HR,HEB⟩:=hrel;by_cases hlt:k<E.length
  case pos=>
   obtain ⟨sb,so,hSA,hsb,hx0⟩:=(HEB.out.prs HR3.out.head (fun _ _ _ h=>by cases h) HS3.out).sl.at_ hlt;have hf:=(HE.out.2 _).1 (bO hlt);have HTK:Hid (E.take (k+1)=E.take k ++ [E[k]]):=aH (bH hlt);have hfl:=fX hf;generalize E[k]=z at *;obtain ⟨x1,x2⟩:=z;simp only at hfl hx0 hf;obtain ⟨q,rfl⟩:=bI hfl.2.2.1;rw [HNE.out] at hfl;have hqn:q<n:=by omega
   have s0:wr.cell? ⟨sb,so+k * 2,none⟩=some (.int .i64 x1):=hx0.1;have s1:wr.cell? ⟨sb,so+k * 2+1,none⟩=some (.int .i64 (q:Int)):=hx0.2
   have hln:(befL (E.take k) q).length<=1000:=by
    have g1:=xK E k q;have g2:=sF HE.out q;rw [HNE.out] at g2;omega
   rw [hSA];have HSA:=aH hSA;clear hx0 hf hfl hSA;have hbz:w3.heap.size<=wr.heap.size:=HEB.out.size;go_wp2_with fail
   obtain ⟨W5,hW5,e0,e1,HR5,HE5⟩:∃W5,W5=wr.alloc (.cells #[.int .i64 x1,.int .i64 (q:Int)] 42)/\W5.cell? ⟨wr.heap.size,0,none⟩=some (.int .i64 x1)/\W5.cell? ⟨wr.heap.size,1,none⟩=some (.int .i64 (q:Int))/\Hid (RowsI W5 b0 b1 n 48 (befL (E.take k)) F)/\Hid (Eb w3 b1 W5):=⟨_,rfl,cT wr [.int .i64 x1,.int .i64 (q:Int)] 42 0 _ rfl,cT wr [.int .i64 x1,.int .i64 (q:Int)] 42 1 _ rfl,aH (HR.out.keep (alF _ _)),aH (HEB.out.then_ (alF _ _))⟩;rw [<- hW5];clear hW5;obtain ⟨VA,vc,hv⟩:=cW (HR5.out.rows q);have c5:=HR5.out.head.cell hqn;rw [hv] at c5;have hown:W5.drew.ownsRow b0 3 1 (F q) (befL (E.take k) q).length ((befL (E.take k) q).map (Value.int .i64)):=HR5.out.rows q;have HV:=aH hv;rw [hv] at hown;have hb5:b0<=W5.heap.size:=by have:=HR5.out.low;omega
   have hl5:b1<W5.heap.size:=HR5.out.head.lt;have hlw5:wr.heap.size<W5.heap.size:=cF _ _ e0
   have hnb:some wr.heap.size≠(F q).ownBlock:=fun e=>by
    have:=((HR.out.rows q).lt _ e.symm).2;omega
   clear s0 s1 HSA;have hS:W5.drew.cell? ⟨wr.heap.size,0,none⟩=some (.int .i64 x1)/\W5.drew.cell? ⟨wr.heap.size,1,none⟩=some (.int .i64 (q:Int))/\W5.drew.cell? ⟨b1,q,none⟩=some (.slice VA (befL (E.take k) q).length vc):=⟨e0,e1,c5⟩;refine dJ (S:=fun X=>X.cell? ⟨wr.heap.size,0,none⟩=some (.int .i64 x1)/\X.cell? ⟨wr.heap.size,1,none⟩=some (.int .i64 (q:Int))/\X.cell? ⟨b1,q,none⟩=some (.slice VA (befL (E.take k) q).length vc)) 13 [0,1,2,3,4,5,6,7,8,9,10,11,12,13] (by kernel_rfl) ?_;(iterate 10 (refine cY (v:=?_) ?_ hS ?_;rotate_left;(next=>(rintro X ⟨q1,q2,q3⟩;(try simp only [aK]);go_simp;rfl));simp only [aO]));(refine cX (fun K1 hK1=>?_);simp only [aO];rw [bD (by rfl)];go_simp);obtain ⟨W6,hW6⟩:∃X,(W5.alloc (.cells #[.int .i64 x1] 3)).drew=X:=⟨_,rfl⟩;have hb56:Below W5.heap.size W5 W6:=by rw [<- hW6];exact ((aZ _ _).alloc (bA _) _).drew
   have hnews:∀j u,[Value.int .i64 x1][j]?=some u->W6.cell? ((⟨W5.heap.size,0,none⟩:Addr).add j)=some u:=by rw [<- hW6];exact fun j u hj=>eD W5 _ _ _ rfl j u hj
   try rw [hW6]
   refine hK1.out _ _ (fun _=>⟨cQ hb56 e0,cQ hb56 e1,cQ hb56 c5⟩) ?_;have HRA:=aH (HR5.out.keep hb56);have HEA:=aH (HE5.out.then_ hb56);have hown6:=HRA.out.rows q;have hb6:=hb56.size;(refine cX (fun K1 hK1=>?_);simp only [aO];rw [bD (by rfl)]);refine eS (.tmp 37) (.tmp 40) 48 rfl b0 3 i0 (.int .i64 0) 1 8 Tryz.underlying48 hi0 hz0 hz1 hz2 rfl (by decide) (F q) _ _ (by rw [HV.out];rfl) hown6 ⟨W5.heap.size,0,none⟩ 1 1 [.int .i64 x1] rfl rfl hnews (ints_oneCell .i64 [x1]) (by unfold maxLen;omega) (by omega) (by omega) ?_;intro v7 W7 hown7 hgrow7 hloc7;have hrow7:=HRA.out.head.block (hgrow7.block b1 (by omega) (dQ hown6 hw13));have c7:=hrow7.cell hqn;rw [HV.out] at c7;have f7:W7.frozen? ⟨b1,q,none⟩=false:=hrow7.frozen q;have hS:W7.cell? ⟨wr.heap.size,0,none⟩=some (.int .i64 x1)/\W7.cell? ⟨wr.heap.size,1,none⟩=some (.int .i64 (q:Int))/\W7.cell? ⟨b1,q,none⟩=some (.slice VA (befL (E.take k) q).length vc):=⟨dR hgrow7 (cQ hb56 e0) hnb,dR hgrow7 (cQ hb56 e1) hnb,c7⟩;refine hK1.out _ _ (fun _=>hS) ?_;have HST:=aH (HRA.out.step q x1 _ hown7 hgrow7 hloc7);rw [<- xJ,<- HTK.out] at HST;have HEN:=aH ((HEA.out.grown hgrow7 (fun g hg=>by have:=(hown6.lt g hg).1;rw [HB0E.out];exact this)).set q v7);obtain ⟨VB,vd,rfl⟩:=cW hown7;clear hown7 hgrow7 hloc7 hown6 hown hnews hrow7;((refine cY (v:=?_) ?_ hS ?_;rotate_left;(next=>(rintro X ⟨q1,q2,q3⟩;(try simp only [aK]);go_simp;rfl));simp only [aO]))
   (refine cX (fun K1 hK1=>?_);simp only [aO];rw [bD (by rfl)];go_simp);refine hK1.out _ _ (fun h=>absurd h (by decide)) ?_;refine dI ?_;clear hS c7 f7 e0 e1 c5;go_wp2_with fail
   go_roundw
   case rel=>exact ⟨k+1,_,by go_num,by omega,HST,HEN⟩
   case measure=>simp [intOf];omega
  case neg=>
  obtain rfl:k=E.length:=by omega
  rw [cB] at HR;have HBF:=aH (fun (p:Nat)=>sE HE.out p);have HBN:Hid (∀p,(befL E p).length<=n):=aH (fun p=>by have:=sF HE.out p;rwa [HNE.out] at this);have HLB:=aH (HEB.out.below HB3.out (Nat.le_of_lt hw1));have HXB:=aH ((HEB.out.keep w.heap.size (by rw [HB0E.out];omega) (by omega)).trans HX3.out);have hmkE:=oY n hc;have hmkL:=vS n hc;clear HE HS3 hsle hsbg HEB HX3 HB3;generalize befL E=BE at *;go_upto_region 8 with fail
  go_cut [7,8] (fun ev lv wx=>∃g2 g3,ev = .slice (some ⟨g2,0,none⟩) n n/\lv = .slice (some ⟨g3,0,none⟩) n n/\Row3 n wr g2 g3 wx)
  case first=>
   have hS:(fun _:World=>True) wr.drew:=trivial;refine dJ (S:=fun _=>True) 6 [0,2,1,4,3,5] (by kernel_rfl) ?_;(iterate 2 (refine cY (v:=?_) ?_ hS ?_;rotate_left;(next=>(rintro X -;(try simp only [aK]);go_simp;rfl));simp only [aO]));refine mZ [0,2,1,4,3,5] [0,2,3,1,4,5] (by kernel_rfl) (fun K1 hK1=>?_) (fun K1 hK1=>?_)
   ·(simp only [aO]);rw [bD (by rfl)];go_simp;refine hK1.out _ _ (fun _=>trivial) ?_;have hS:(fun _:World=>True) wr:=trivial;((refine cY (v:=?_) ?_ hS ?_;rotate_left;(next=>(rintro X -;(try simp only [aK]);go_simp;rfl));simp only [aO]))
    (refine cX (fun K1 hK1=>?_);simp only [aO];rw [bD (by rfl)];go_simp);refine hK1.out _ _ (fun _=>trivial) ?_;((refine cY (v:=?_) ?_ hS ?_;rotate_left;(next=>(rintro X -;(try simp only [aK]);go_simp;rfl));simp only [aO]))
    refine dI ?_;go_wp2_with fail
    go_meet;exact ⟨_,_,rfl,rfl,(xEG n wr).drew⟩
   ·(simp only [aO]);rw [bD (by rfl)];go_simp;refine hK1.out _ _ (fun _=>trivial) ?_;have hS:(fun _:World=>True) wr:=trivial;(refine cX (fun K1 hK1=>?_);simp only [aO];rw [bD (by rfl)];go_simp);refine hK1.out _ _ (fun _=>trivial) ?_;(iterate 2 (refine cY (v:=?_) ?_ hS ?_;rotate_left;(next=>(rintro X -;(try simp only [aK]);go_simp;rfl));simp only [aO]));refine dI ?_;go_wp2_with fail
    go_meet;exact ⟨_,_,rfl,rfl,(xEF n wr).drew⟩
  case rest=>
  obtain ⟨g2,g3,rfl,rfl,hrow⟩:=hcut;have HS0:Hid (LcW b bh w n b0 b1 g2 g3 BE F (fun _=>(none,0,false)) 0 (fun _=>[]) (fun _=>0) wc):=aH ⟨(hrow.2.2.1.block _ (Array.getElem?_eq_some_iff.1 HXB.out).1).trans HXB.out,HR.out.keep hrow.2.2.1,hrow.1,hrow.2.1,fun j hj=>by omega,fun i j hi=>by omega,HLB.out.trans (hrow.2.2.1.mono HLB.out.size),⟨hw1,by have:=hrow.2.2.2.1;have:=(Array.getElem?_eq_some_iff.1 HXB.out).1;omega,by have:=hrow.2.2.2.2;have:=(Array.getElem?_eq_some_iff.1 HXB.out).1;omega⟩,fun j hj=>by omega⟩;have hwb:w.heap.size<=b0:=by omega
  clear hrow HR HLB HXB hmkE hmkL;go_wp2_with fail
  go_loopw [9,10,11,49] (fun v _ _ i wr=>∃(m:Nat) (EV:Nat->Option Nat × Int × Bool) (MB:Nat->Nat) (wk:List (Int × Int)),i = .int .i64 m/\m<=n/\Hid (LcW b bh w n b0 b1 g2 g3 BE F EV m (fun _=>[]) MB wr)/\Hid (EvOk b.blocks EV m)/\Hid (wr.ownsRow b0 42 2 v wk.length (wk.flatMap prC))/\Hid (Wb b.blocks U wk m (fun _=>true))) (fun _ _ _ i _=>n - (intOf i).toNat)
  case atStart=>exact ⟨0,_,_,[],rfl,by omega,HS0,aH (fun p hp=>by omega),aH (World.ownsRow_nil _ _ _ _),aH (Wb.zero _ _ _ (fun _ _=>rfl))⟩
  case round=>
  clear HS0;obtain ⟨m,EV,MB,wk,rfl,hm,HS,HEV,HW,HWB⟩:=hrel;by_cases hlt:m<n
  case pos=>
   have y0:=HS.out.cell 0 _ rfl;have y1:=HS.out.cell 1 _ rfl;have y2:=HS.out.cell 2 _ rfl;have y3:=HS.out.cell 3 _ rfl;have y4:=HS.out.cell 4 _ rfl;have y5:=HS.out.cell 5 _ rfl;have y6:=HS.out.cell 6 _ rfl;have x3:wr.cell? ⟨g3,m,none⟩=some (.map none):=by rw [HS.out.liv.cell hlt];unfold lvF;rw [bB (by omega)]
   obtain ⟨x0,x1,x2⟩:=HS.out.eff3 hlt
   have HNO:Hid (¬locB b.blocks (m:Int)=none):=aH (by
    obtain ⟨q,hq⟩:=mN (bs:=b.blocks) (p:=(m:Int)) (by omega) (by rw [HNE.out];omega)
    rw [hq];simp)
   go_upto_region 13 with fail
   go_cut [] (fun wx=>CutM b bh w n b0 b1 g2 g3 BE F EV m MB u9 wk wx)
   case first=>
    go_wp2_with (go_at_call 126;refine (HAT.out _ HS.out.low (m:Int) ⟨by omega,by omega⟩).mono ?_;rintro e' w4 h4;have h5:=h4.ef HNO.out;unfold EfR at h5;obtain ⟨mb,d,hd,sl,rfl,hmb,ho,hm2,hdd,-,hb4⟩:=h5;have HS4:=aH (HS.out.keep hb4);have HW4:=aH (dE HW.out hb4);have HO4:=aH ho;have HM4:=aH hm2;have HD4:=aH hdd;replace x0:=cQ hb4 x0;replace x1:=cQ hb4 x1;replace x2:=cQ hb4 x2;replace x3:=cQ hb4 x3;have f0:=HS4.out.frozen2 (m * 3);have f1:=HS4.out.frozen2 (m * 3+1);have f2:=HS4.out.frozen2 (m * 3+2);have f3:=HS4.out.frozen3 m;obtain ⟨k2,k3,k1,k0⟩:=HS4.out.lt2;have k23:=HS4.out.ne23;have k32:=Ne.symm k23;clear h4 ho hm2 hdd hb4 y0 y1 y2 y3 y4 y5 y6)
    go_meet;exact xAN HS4.out HEV.out HW4.out HO4.out HM4.out HD4.out (by have:=HS.out.low.size;omega)
   case rest=>
   obtain ⟨mb,g,sl,d,hd,hS,hE,hW,hO,hM,hmb⟩:=hcut;have HSC:=aH hS;have HEC:=aH hE;have HWC:=aH hW;have HMC:=aH hM;have HOC:=aH hO;have x0c:=(hS.eff3 hlt).1;rw [show (updE EV m (some mb,d,hd) m).1=some mb by unfold updE;rw [bD rfl]] at x0c;generalize updE EV m (some mb,d,hd)=EV2 at *;generalize updM MB m g=MB2 at *;clear hS hE hW hO hM HS HEV HW x0 x1 x2 x3 HNO y0 y1 y2 y3 y4 y5 y6;go_wp2_with (at_range;refine nC _ rfl _ rfl mb 1000000 sl rfl HOC.out ?_;intro w5 cnt hrg hg5 hs5)
   go_frame
   have hb5:Below wc.heap.size wc w5:=⟨hg5.os,hg5.tape,hg5.output,hg5.size,fun k hk=>hg5.block k hk (by simp)⟩;have HS5:=aH (HSC.out.keep hb5);have HW5:=aH (dE HWC.out hb5);have HRG5:=aH hrg;have hlr:w.heap.size<=wc.heap.size:=HSC.out.low.size;obtain ⟨r,hr⟩:∃r,wc.heap.size=r:=⟨_,rfl⟩;rw [hr] at HRG5 hlr ⊢;clear hb5 hg5 hs5 hrg HSC HWC HOC x0c hr;go_loopw [9,11] (fun v _ wr=>∃(left:Int->Bool) (cnt:Nat) (wk:List (Int × Int)),Hid (RngI wr mb r 1000000 sl left cnt)/\Hid (LcW b bh w n b0 b1 g2 g3 BE F EV2 (m+1) (fun _=>[]) MB2 wr)/\Hid (wr.ownsRow b0 42 2 v wk.length (wk.flatMap prC))/\Hid (Wb b.blocks U wk m left)) (fun _ _ wr=>wr.rangeLeft mb r)
   case atStart=>exact ⟨_,cnt,wk,HRG5,HS5,HW5,aH (HWB.out.set _ (fun x hx=>by simp [(HMC.out x).2 hx]))⟩
   case round=>
    clear HRG5 HS5 HW5 HWB;obtain ⟨left,cnt,wk,HRG,HS,HW,HWB⟩:=hrel;go_wp2_with (at_next;refine iT _ rfl _ rfl mb r 1000000 sl left cnt rfl HRG.out ?_ ?_)
    ·intro hl0;have HWN:=aH (HWB.out.next hl0 (fun _=>true) (fun _ _=>rfl));go_wp2_with fail
     go_roundw
     case rel=>exact ⟨m+1,EV2,MB2,wk,by go_num,by omega,HS,HEC,HW,HWN⟩
     case measure=>simp [intOf];omega
    ·intro x c2 w6 cnt2 hwf hlx hxs hrg6 hlt6 hgr6 hsz6 hen;obtain ⟨ms,ss,ts,cs,hit⟩:=HRG.out.iter;have HS6:=aH (HS.out.iter hit hgr6 hlr);have HW6:=aH (iC HW.out hit (fun _ _ e=>by cases e) hgr6);have HRG6:=aH hrg6;have HWN:=aH (HWB.out.push ((HMC.out x).1 hxs) hlx (HUU.out _ x ((HMC.out x).1 hxs)).1);simp only [ne_eq,decide_not] at HWN;have HLT:=aH hlt6;have hwl:wk.length<=1000000:=cA HWB.out.all (cA (Nat.mul_le_mul (show m+1<=1000 by omega) hU) (by omega));obtain ⟨VA,vc,rfl⟩:=cW HW.out;have hown:=HW6.out.alloc (.cells #[.int .i64 (m:Int),.int .i64 x] 42);have hlb:b0<=w6.heap.size:=HS6.out.bef.low;clear hit hwf hlx hxs hrg6 hlt6 hgr6 hsz6 HWB;go_wp2_with (at_builtin;refine wpList_append_own _ rfl _ _ 23 rfl b0 42 q0 (.agg #[.int .i64 0,.int .i64 0]) 2 16 Tryz.underlying23 hq0 hq1 hq2 hq3 rfl (by decide) _ _ _ rfl hown ⟨w6.heap.size,0,none⟩ 1 1 (prC ((m:Int),x)) rfl rfl (fun j u hj=>by rw [add0];exact fR _ _ _ j u hj) (fun u hu=>by simp [prC] at hu;rcases hu with rfl | rfl <;> rfl) (by unfold maxLen;omega) (by omega) (by simp;omega) ?_;intro v7 w7 hown7 hgrow7 _)
     have hal6:=alF w6 (.cells #[.int .i64 (m:Int),.int .i64 x] 42);have HRG7:=aH ((HRG6.out.below hal6).grow hown hgrow7);have HS7:=aH ((HS6.out.keep hal6).grow hown hgrow7 hwb);have HW7:=aH (lI hown7);clear hown hown7 hgrow7 hal6 hen;go_roundw
     case rel=>exact ⟨_,cnt2,wk ++ [((m:Int),x)],HRG7,HS7,HW7,HWN⟩
     case measure=>rw [HRG7.out.left_eq,HRG.out.left_eq];exact HLT.out
  case neg=>
  have hnm:m=n:=by omega
  subst hnm;have HWK:=aH (HWB.out.start (by rw [HNE.out];exact bA _));have HWL:=aH (show wk.length<=(m+1) * U.length+totL (fun _=>[]) m * m by have:=HWB.out.all;omega);have hmk4:=lO m hc;clear HWB hlt hm HAT;go_wp2_with fail
  go_step3
  go_wp2_with fail
  go_loopg [9,12,13,15] (msW (m * U.length) m (totL (fun _=>[]) m) wk.length) (fun gk v _ _ _ wr=>∃(L:Int->List Int) (wk:List (Int × Int)),gk=msW (m * U.length) m (totL L m) wk.length/\Hid (LcW b bh w m b0 b1 g2 g3 BE F EV m L MB wr)/\Hid (wr.ownsRow b0 42 2 v wk.length (wk.flatMap prC))/\Hid (Wk b.blocks U L wk (fun _ _ _=>False))/\Hid (wk.length<=(m+1) * U.length+totL L m * m))
  case atStart=>exact ⟨_,wk,rfl,HS,HW,HWK,HWL⟩
  case round=>
  clear HS HW HWK HWL;obtain ⟨L,wk,hgk,HS,HW,HWK,HWL⟩:=hrel;rcases List.eq_nil_or_concat wk with rfl | ⟨wk,⟨p,x⟩,rfl⟩
  ·obtain ⟨A9,c9,rfl⟩:=cW HW.out;simp only [bQ];have HLV:=aH (fun p z=>HWK.out.done p z)
   have HSM:Hid (∀p,∀z∈L p,Sml z):=aH (fun p z hz=>by
    obtain ⟨q,hq⟩:=(HWK.out.snd p z hz).used
    exact (HUU.out q z hq).2)
   obtain ⟨W4,rfl⟩:∃W4,W4=wr:=⟨_,rfl⟩;have hR4:RowF (W4.alloc (.cells (rowA m (fun _=> .slice none 0 0)) 48)) W4.heap.size m 48 (TF []):=(RowF.new W4 m 48 _).congr (fun j _=>by simp [TF]);have hB4:=alF W4 (.cells (rowA m (fun _=> .slice none 0 0)) 48);have HR4:=aH hR4;have HB4:=aH hB4;clear HW HWK HWL hgk hR4 hB4;go_wp2_with fail
   go_loopw [17,18,147] (fun _ _ i wr=>∃(k:Nat) (tr:List Tr),i = .int .i64 k/\k<=m/\tr.length=k/\Hid (Below W4.heap.size W4 wr)/\Hid (RowF wr W4.heap.size m 48 (TF tr))/\Hid (∀t∈tr,Slc 1 RInt wr t.1 t.2.2 t.2.1/\∀a,t.1=some a->W4.heap.size<a.block)/\Hid (∀(i:Nat) t,tr[i]?=some t->Srt t.2.1 (fun z=>Lv b.blocks z (i:Int)))) (fun _ _ i _=>m - (intOf i).toNat)
   case atStart=>exact ⟨0,[],rfl,by omega,rfl,HB4,HR4,aH (fun t ht=>by cases ht),aH (fun i t ht=>by cases ht)⟩
   case round=>
    clear HR4 HB4;obtain ⟨k,tr,rfl,hk,htl,HB,HR,HT,HSR⟩:=hrel;by_cases hlt:k<m
    case pos=>
     have l3:=cQ HB.out (HS.out.livC hlt hlt);have hok:=(HS.out.maps k hlt).below HB.out;have HOK:=aH hok;have h4:W4.heap.size<wr.heap.size:=HR.out.lt;clear hok
     go_wp2_with (first
      | (go_at_call 128;refine (zX _ _).mono ?_;rintro e' w5 ⟨rfl,rfl⟩)
      | (go_at_call 127;refine (sL wr (MB k) _ (L k) HOK.out (HSM.out k)).mono ?_;rintro e' w6 ⟨A6,c6,s6,rfl,hsr,hsl,hlo,hb6⟩;have hR6:=HR.out.block (hb6.block _ h4);have c4:=hR6.cell hlt;have f4:w6.frozen? ⟨W4.heap.size,k,none⟩=false:=hR6.frozen k;have d4:TF tr k = .slice none 0 0:=(by unfold TF;rw [cG (by omega)]);rw [d4] at c4))
     have hTF:RowF (w6.setCell ⟨W4.heap.size,k,none⟩ (.slice A6 s6.length c6)) W4.heap.size m 48 (TF (tr ++ [(A6,s6,c6)])):=(hR6.set k (.slice A6 s6.length c6)).congr (fun j _=>by have:=xDT tr (A6,s6,c6) j;rw [htl] at this;exact this);have HTF:=aH hTF;have HB7:=aH (RowF.below (j:=k) (b:=W4.heap.size) (.slice A6 s6.length c6) (bA _) (HB.out.trans (hb6.mono HB.out.size)))
     have HT7:Hid (∀t∈tr ++ [(A6,s6,c6)],Slc 1 RInt (w6.setCell ⟨W4.heap.size,k,none⟩ (.slice A6 s6.length c6)) t.1 t.2.2 t.2.1/\∀a,t.1=some a->W4.heap.size<a.block):=aH (fun t ht=>by
      have key:Slc 1 RInt w6 t.1 t.2.2 t.2.1/\∀a,t.1=some a->W4.heap.size<a.block:=by
       rcases List.mem_append.1 ht with ht | ht
       ·exact ⟨(HT.out t ht).1.keep RInt.keeps hb6,(HT.out t ht).2⟩
       ·rw [List.mem_singleton.1 ht];exact ⟨hsl,fun a ha=>by have:=hlo a ha;omega⟩
      exact ⟨xCE key.1 key.2 k _,key.2⟩)
     have HS7:Hid (∀(i:Nat) t,(tr ++ [(A6,s6,c6)])[i]?=some t->Srt t.2.1 (fun z=>Lv b.blocks z (i:Int))):=aH (fun i t ht=>by
      by_cases hi:i<tr.length
      ·rw [List.getElem?_append_left hi] at ht;exact HSR.out i t ht
      ·rw [List.getElem?_append_right (by omega)] at ht
       have h0:i - tr.length=0:=by
        have:=(List.getElem?_eq_some_iff.1 ht).1;simp at this;omega
       rw [h0] at ht;injection ht with ht
       subst ht;have:i=k:=by omega
       subst this
       exact hsr.iff (fun z=>HLV.out _ z))
     clear hTF hR6 c4 f4 d4 hsr hsl hlo hb6;go_roundw
     case rel=>exact ⟨k+1,tr ++ [(A6,s6,c6)],by go_num,by omega,by simp [htl],HB7,HTF,HT7,HS7⟩
     case measure=>simp [intOf];omega
    case neg=>
     have hkm:k=m:=(by omega);subst hkm;have HOUT:=aH (xCF HR.out htl (by omega) (fun t ht=>(HT.out t ht).1))
     have HFIN:Hid (∀(i:Nat) (l:List Int),(tr.map (·.2.1))[i]?=some l->Srt l (fun z=>Lv b.blocks z (i:Int))):=aH (fun i l hl=>by
      rw [cP] at hl;cases e:tr[i]? with
      | none=>rw [e] at hl;cases hl
      | some t=>rw [e] at hl;injection hl with hl;subst hl;exact HSR.out i t e)
     have HBF2:=aH (HS.out.low.trans (HB.out.mono HS.out.low.size));go_wp2_with fail
     rw [Exit.noGoto_ret];go_ret;exact ⟨some ⟨W4.heap.size,0,none⟩,k,tr.map (·.2.1),by rw [cH,htl];rfl,by rw [cH,htl],HFIN.out,HOUT.out,HBF2.out⟩
  ·rw [List.concat_eq_append] at *;have hlv:Lv b.blocks x p:=HWK.out.wsnd (p,x) (by simp);have hpr:=hlv.lt;rw [HNE.out] at hpr;obtain ⟨j,rfl⟩:=bI hpr.1;have hj:j<m:=by omega
   have hxu:x∈U/\Sml x:=by obtain ⟨q,hq⟩:=hlv.used;exact HUU.out q x hq
   obtain ⟨g,cap,rfl,hc1,hc2,w0,w1c,hpop⟩:=zE HW.out;have HPOP:=aH hpop;have HXU:=aH hxu;have HLVX:=aH hlv;have keyx:=eV hxu.2;have l3:=HS.out.livC hj hj;have hown:=(HS.out.maps j hj)
   have hwl2:wk.length<=2000000000:=by
    have h1:=xW hc hU (HWK.out.tot m) HWL.out;simp at h1;omega
   have hwrp:IntKind.i64.wrap (wk.length:Int)=(wk.length:Int):=by rw [IntWalk.i64_left];unfold RowKit.wrap64;omega
   clear hpop hpr hlv hxu;go_upto_region 20 with fail
   have hS:wr.drew.cell? ⟨g,wk.length * 2,none⟩=some (.int .i64 (j:Int))/\wr.drew.cell? ⟨g,wk.length * 2+1,none⟩=some (.int .i64 x):=⟨w0,w1c⟩;refine cZ (S:=fun X=>X.cell? ⟨g,wk.length * 2,none⟩=some (.int .i64 (j:Int))/\X.cell? ⟨g,wk.length * 2+1,none⟩=some (.int .i64 x)) [0,1,2,3,4,5,6,8,9,14,7,10,11,12,13,15] (by kernel_rfl) ?_;(iterate 16 (refine cY (v:=?_) ?_ hS ?_;rotate_left;(next=>(rintro X ⟨hX,hY⟩;have hlt1:(wk.length:Int)<(wk.length:Int)+1:=(by omega);(try simp only [aK]);go_simp;rfl));simp only [aO]));clear hwrp;refine dI ?_;clear hS w0 w1c;have HSd:=aH (HS.out.keep ((aZ wr.heap.size wr).drew));have HWd:Hid (wr.drew.ownsRow b0 42 2 (.slice (some ⟨g,0,none⟩) wk.length cap) wk.length (wk.flatMap prC)):=aH HPOP.out;have l3d:wr.drew.cell? ⟨g3,j,none⟩=some (.map (some (MB j))):=l3;have hownd:OwnI wr.drew (MB j) 1000000 (L (j:Int)):=hown;clear l3 hown HS HPOP HW;generalize wr.drew=W5 at *;by_cases hx:x∈L (j:Int)
   ·have HFB:Hid (i64F (inF (L (j:Int))) (.int .i64 x)=true):=aH (by simp [i64F,inF,hx]);have HWN:=aH (HWK.out.known hx);go_wp2_with (at_lookup;refine dB _ rfl _ _ 198 rfl 3 4 law3 Tryz.underlying198 Tryz.underlying4 (eF _) _ _ _ rfl hownd.toB _ _ rfl keyx ?_;rw [HFB.out])
    go_roundg (msW (m * U.length) m (totL L m) wk.length)
    case measure=>rw [hgk,bE,cI];exact xCR
    case rel=>exact ⟨L,wk,rfl,HSd,HWd,HWN,aH (by have:=HWL.out;simp at this;omega)⟩
   ·have HFB:Hid (i64F (inF (L (j:Int))) (.int .i64 x)=false):=aH (by simp [i64F,inF,hx]);have HWX:=aH (Wx.start (l:=BE j) HWK.out hx HXU.out.1 (fun q hq=>((HBF.out j).2 q).2 hq));have HTT:Hid (totL (addL L (j:Int) x) m=totL L m+1):=aH (qS (by omega) (by omega));have HMM:=aH (Wk.tot HWX.out m);rw [HTT.out] at HMM
    have hsm:∀z∈x :: L (j:Int),Sml z:=fun z hz=>by
     rcases List.mem_cons.1 hz with rfl | hz
     ·exact HXU.out.2
     ·obtain ⟨q,hq⟩:=(HWK.out.snd (j:Int) z hz).used;exact (HUU.out q z hq).2
    have HSML:=aH hsm;clear hsm
    go_wp2_with (first
     | (at_lookup;refine dB _ rfl _ _ 198 rfl 3 4 law3 Tryz.underlying198 Tryz.underlying4 (eF _) _ _ _ rfl hownd.toB _ _ rfl keyx ?_;rw [HFB.out])
     | (at_mapUpdate;refine dW _ rfl _ _ _ rfl (MB j) 1000000 (L (j:Int)) rfl hownd (by unfold maxLen;omega) x rfl rfl keyx ?_;intro w7 ho7 hg7;have HS7:=aH (HSd.out.put hj hg7 (ho7.tight HSML.out));have HW7:=aH (HSd.out.put_row hj hg7 HWd.out);obtain ⟨BA,bc,hbv,c7⟩:=HS7.out.bef_ hj;have HBV:=aH hbv;clear ho7 hg7 hbv l3d))
    have hbl:=HBN.out j;have HGK:=aH hgk;clear hgk HFB hownd HSd HWd HSML keyx;generalize addL L (j:Int) x=L2 at *;go_loopg [9,15,117] (BE j).length (fun gj v _ i wr=>∃(k:Nat) (wk2:List (Int × Int)),gj=(BE j).length - k/\i = .int .i64 k/\k<=(BE j).length/\wk2.length<=wk.length+k/\Hid (LcW b bh w m b0 b1 g2 g3 BE F EV m L2 MB wr)/\Hid (wr.ownsRow b0 42 2 v wk2.length (wk2.flatMap prC))/\Hid (Wx b.blocks U L2 wk2 (j:Int) x (BE j) k))
    case atStart=>exact ⟨0,wk,by omega,rfl,by omega,by omega,HS7,HW7,HWX⟩
    case round=>
     clear HS7 HW7 HWX c7;obtain ⟨k,wk2,hgj,rfl,hk,hwk2,HS8,HW8,HWX8⟩:=hrel;by_cases hlt:k<(BE j).length
     case pos=>
      obtain ⟨sb,so,rfl,hsb,hx0⟩:=(HS8.out.befS HBV.out).sl.at_ hlt;have HKI:=aH (bF hlt);have hf:=((HBF.out j).2 _).1 (bO hlt);have hfl:=fX hf;rw [HNE.out] at hfl;have s0:wr.cell? ⟨sb,so+k,none⟩=some (.int .i64 (BE j)[k]):=(by simpa [RInt] using hx0);clear hx0;generalize (BE j)[k]=q0 at *;obtain ⟨q,rfl⟩:=bI hfl.1;have hqm:q<m:=(by omega);obtain ⟨-,e1,e2⟩:=HS8.out.eff3 hqm;have hev:=HEV.out q hqm;have HF:=aH hf;generalize EV q=tq at e1 e2 hev;obtain ⟨mq,d,hd⟩:=tq;simp only at e1 e2 hev;have HEQ:=aH hev;obtain ⟨VA,vc,rfl⟩:=cW HW8.out;have hown:=HW8.out.alloc (.cells #[.int .i64 (q:Int),.int .i64 x] 42);have hlb:b0<=wr.heap.size:=HS8.out.bef.low;have HPU:=aH (fun h=>HWX8.out.push HLVX.out HKI.out HF.out h);have HPA:=aH (fun h=>HWX8.out.pass HKI.out h);clear hf hfl hev;cases hd
      ·have HPN:=aH (HPU.out (by rw [HEQ.out];simp));go_wp2_with (at_builtin;refine wpList_append_own _ rfl _ _ 23 rfl b0 42 q0 (.agg #[.int .i64 0,.int .i64 0]) 2 16 Tryz.underlying23 hq0 hq1 hq2 hq3 rfl (by decide) _ _ _ rfl hown ⟨wr.heap.size,0,none⟩ 1 1 (prC ((q:Int),x)) rfl rfl (fun j u hj=>by rw [add0];exact fR _ _ _ j u hj) (fun u hu=>by simp [prC] at hu;rcases hu with rfl | rfl <;> rfl) (by unfold maxLen;omega) (by omega) (by simp;omega) ?_;intro v9 w9 hown9 hgrow9 _)
       have HS9:=aH ((HS8.out.keep (alF wr (.cells #[.int .i64 (q:Int),.int .i64 x] 42))).grow hown hgrow9 hwb);have HW9:=aH (lI hown9);clear hown9 hgrow9 hown;go_roundg ((BE j).length - (k+1))
       case measure=>omega
       case rel=>exact ⟨k+1,wk2 ++ [((q:Int),x)],rfl,by go_num,by omega,by simp;omega,HS9,HW9,HPN⟩
      ·by_cases hdx:d=x
       ·have hb:(d != x)=false:=by simp [hdx]
        have HPN:=aH (HPA.out (by rw [HEQ.out,hdx];simp));clear hdx hown;go_wp2_with fail
        go_roundg ((BE j).length - (k+1))
        case measure=>omega
        case rel=>exact ⟨k+1,wk2,rfl,by go_num,by omega,by omega,HS8,HW8,HPN⟩
       ·have hb:(d != x)=true:=by simp [hdx]
        have HPN:=aH (HPU.out (by rw [HEQ.out];simp [hdx]));clear hdx;go_wp2_with (at_builtin;refine wpList_append_own _ rfl _ _ 23 rfl b0 42 q0 (.agg #[.int .i64 0,.int .i64 0]) 2 16 Tryz.underlying23 hq0 hq1 hq2 hq3 rfl (by decide) _ _ _ rfl hown ⟨wr.heap.size,0,none⟩ 1 1 (prC ((q:Int),x)) rfl rfl (fun j u hj=>by rw [add0];exact fR _ _ _ j u hj) (fun u hu=>by simp [prC] at hu;rcases hu with rfl | rfl <;> rfl) (by unfold maxLen;omega) (by omega) (by simp;omega) ?_;intro v9 w9 hown9 hgrow9 _)
        have HS9:=aH ((HS8.out.keep (alF wr (.cells #[.int .i64 (q:Int),.int .i64 x] 42))).grow hown hgrow9 hwb);have HW9:=aH (lI hown9);clear hown9 hgrow9 hown;go_roundg ((BE j).length - (k+1))
        case measure=>omega
        case rel=>exact ⟨k+1,wk2 ++ [((q:Int),x)],rfl,by go_num,by omega,by simp;omega,HS9,HW9,HPN⟩
     case neg=>
      have HWD:=aH (HWX8.out.done (by omega));go_wp2_with fail
      go_roundg (msW (m * U.length) m (totL L2 m) wk2.length)
      case measure=>rw [HGK.out,HTT.out,bE,cI];exact zO HMM.out (by omega)
      case rel=>exact ⟨L2,wk2,rfl,HS8,HW8,HWD,aH (by
       have h1:=HWL.out;have h2:(totL L m+1) * m=totL L m * m+m:=Nat.succ_mul _ _;rw [HTT.out,h2];rw [bE,cI] at h1
       omega)⟩
end
section
open Go Go.RowKit Go.Maps
attribute [local irreducible] Calls
theorem xDV (w:World) (n:Nat) (A:Option Addr) (c:Nat) (t1 t2 t3:TypeId):
 ViS ⟨w,A,c,w.heap.size,w.heap.size+2,w.heap.size+3,w.heap.size+1⟩ n ((((w.alloc (.cells #[.slice A n c] t1)).alloc (.map #[] 0)).alloc (.cells #[.map (some (w.heap.size+1))] t2)).alloc (.cells #[CopE.F2 ⟨w,A,c,w.heap.size,w.heap.size+2,w.heap.size+3,w.heap.size+1⟩] t3)) []:=by
 refine ⟨aJ,?_,?_,?_,?_,by simp,by simp⟩
 ·exact cQ ((((aZ _ _).alloc (bA _) _).alloc (by simp) _).alloc (by simp) _) (cT w [.slice A n c] t1 0 _ rfl)
 ·have:=cT ((w.alloc (.cells #[.slice A n c] t1)).alloc (.map #[] 0)) [.map (some (w.heap.size+1))] t2 0 _ rfl;simp only [bK] at this;exact cQ ((aZ _ _).alloc (bA _) _) this
 ·have:=cT (((w.alloc (.cells #[.slice A n c] t1)).alloc (.map #[] 0)).alloc (.cells #[.map (some (w.heap.size+1))] t2)) [CopE.F2 ⟨w,A,c,w.heap.size,w.heap.size+2,w.heap.size+3,w.heap.size+1⟩] t3 0 _ rfl;simp only [bK] at this;exact this
 ·have:=(OwnI.made (w.alloc (.cells #[.slice A n c] t1))).mono (m:=1000000) (by omega);rw [bK] at this;exact (this.alloc _).alloc _
theorem uO (ts:List Ty) (hok:TyOk ts) (hn:ts.length<=65535) (k:Nat) (hlt:k<ts.length) (A:Option Addr) (c:Nat) (w:World) (hs:Slc 5 RTy w A c ts):
 Calls Tryz.prog 129 #[.slice A ts.length c,.int .i64 (k:Int)] w fun e' w'=>∃g sl,e' = .returned (.map (some g))/\OwnI w' g 1000000 sl/\sl.Nodup/\(∀x∈sl,0<=x/\x<(ts.length:Int))/\(∀z,z∈sl↔Rt ts (k:Int) z)/\w.heap.size<=g/\Below w.heap.size w w':=by
 have hle:=hs.le;have hbig:=hs.big;have HE:CopE.Ok ⟨w,A,c,w.heap.size,w.heap.size+2,w.heap.size+3,w.heap.size+1⟩ ts:=⟨hs,hok,hn,Nat.le_succ _,by simp,by simp,by simp⟩;have HC:=aH (fun W h=>kM _ ts HE (k+1) k (by omega) hlt W [] h);have hmm:= @run_makeMap Tryz.prog;have hst:∀(a:Addr) (fn:Fn) (f c:Array Value) (W:World),(store a (.func fn f c)).run Tryz.prog W=stored Tryz.prog W a (.func fn f c) .plain:=fun a fn f c W=>run_store Tryz.prog W a (.func fn f c) _ rfl
 clear hs HE;go_enter Tryz.func129,Tryz.ntmps129
 go_wp2_with (go_at_call 161;refine (HC.out _ (xDV w ts.length A c _ _ _)).mono ?_;rintro e' w1 ⟨rfl,sl,hv,hs1,hk1⟩;have HV:=aH hv;have HS1:=aH hs1;have x1:=hs1.s;clear hv hs1 hk1)
 go_ret;exact ⟨_,sl,rfl,HS1.out.own,HS1.out.nd,HS1.out.rng,HV.out.reach,by omega,HS1.out.low⟩
def PtR (ts:List Ty) (x r:Int):Prop:=∃t,ts[x.toNat]?=some t/\t.kind=3/\t.reg=r
structure Mv (ts:List Ty) (sl vs o:List Int) (left:Int->Bool):Prop where
 nd:vs.Nodup
 mem:∀x∈vs,x∈sl/\left x=false
 all:∀x∈sl,left x=false->x∈vs
 len:o.length<=vs.length
 out:∀r,r∈o↔∃x∈vs,PtR ts x r
theorem Mv.start (ts:List Ty) (sl:List Int):Mv ts sl [] [] (fun x=>decide (x∈sl)):=
 ⟨by simp,by simp,fun x hx h=>by simp [hx] at h,bA _,fun r=>by simp⟩
theorem Mv.len_le {ts:List Ty} {sl vs o:List Int} {left:Int->Bool} (h:Mv ts sl vs o left) {n:Nat} (hr:∀x∈sl,0<=x/\x<(n:Int)):o.length<=n:=
 cA h.len (dY n vs h.nd (fun x hx=>hr x (h.mem x hx).1))
theorem Mv.pass {ts:List Ty} {sl vs o:List Int} {left:Int->Bool} (h:Mv ts sl vs o left) {x:Int} (hx:x∈sl) (hl:left x=true) (hp:∀r,¬PtR ts x r):Mv ts sl (x :: vs) o (fun z=>left z && decide (z≠x)):=
 ⟨List.nodup_cons.2 ⟨fun hv=>(by have:=(h.mem x hv).2;rw [hl] at this;cases this),h.nd⟩,
  fun y hy=>(List.mem_cons.1 hy).elim (fun e=>by subst e;exact ⟨hx,by simp⟩) (fun hv=>⟨(h.mem y hv).1,by simp [(h.mem y hv).2]⟩),
  fun y hy hf=>by
   by_cases e:y=x
   ·subst e;simp
   ·refine List.mem_cons_of_mem _ (h.all y hy ?_);simpa [e] using hf,
  cA h.len (by simp),fun r=>by rw [h.out];simp [hp]⟩
theorem Mv.take {ts:List Ty} {sl vs o:List Int} {left:Int->Bool} (h:Mv ts sl vs o left) {x:Int} (hx:x∈sl) (hl:left x=true) {t:Ty} (ht:ts[x.toNat]?=some t) (h3:t.kind=3):Mv ts sl (x :: vs) (o ++ [t.reg]) (fun z=>left z && decide (z≠x)):=
 ⟨List.nodup_cons.2 ⟨fun hv=>(by have:=(h.mem x hv).2;rw [hl] at this;cases this),h.nd⟩,
  fun y hy=>(List.mem_cons.1 hy).elim (fun e=>by subst e;exact ⟨hx,by simp⟩) (fun hv=>⟨(h.mem y hv).1,by simp [(h.mem y hv).2]⟩),
  fun y hy hf=>by
   by_cases e:y=x
   ·subst e;simp
   ·refine List.mem_cons_of_mem _ (h.all y hy ?_);simpa [e] using hf,
  by simp [h.len],fun r=>by
   rw [cL,h.out,bU];constructor
   ·rintro (⟨y,hy,hr⟩ | rfl)
    ·exact ⟨y,List.mem_cons_of_mem _ hy,hr⟩
    ·exact ⟨x,by simp,t,ht,h3,rfl⟩
   ·rintro ⟨y,hy,hr⟩;rcases List.mem_cons.1 hy with rfl | hv
    ·obtain ⟨u,hu,_,he⟩:=hr;rw [ht] at hu;injection hu with hu;subst hu
     exact .inr he.symm
    ·exact .inl ⟨y,hv,hr⟩⟩
theorem Mv.done {ts:List Ty} {sl vs o:List Int} {left:Int->Bool} (h:Mv ts sl vs o left) (hl:∀x,left x=false) (r:Int):r∈o↔∃x∈sl,PtR ts x r:=
 (h.out r).trans ⟨fun ⟨x,a,b⟩=>⟨x,(h.mem x a).1,b⟩,fun ⟨x,a,b⟩=>⟨x,h.all x a (hl x),b⟩⟩
theorem RngI.grow1 {W W':World} {mb r k:Nat} {sl:List Int} {left:Int->Bool} {cnt:Nat} (h:RngI W mb r k sl left cnt) {base m:Nat} {v:Value} {xs:List Value} (ho:W.ownsRow base 3 1 v m xs) (hg:W.grownBy W' v.ownBlock):RngI W' mb r k sl left cnt:=by
 obtain ⟨a1,a2,a3,a4,hi⟩:=h.iter;obtain ⟨c1,c2,hm⟩:=h.mobj;refine h.kept (hg.block _ h.lt.2.1 (fun e=>?_)) (hg.block _ h.lt.1 (fun e=>?_))
 ·obtain ⟨cur,hc⟩:=fH ho e.symm;rw [hm] at hc;cases hc
 ·obtain ⟨cur,hc⟩:=fH ho e.symm;rw [hi] at hc;cases hc
theorem vR (ts:List Ty) (hok:TyOk ts) (hn:ts.length<=65535) (k:Nat) (hlt:k<ts.length) (A:Option Addr) (c:Nat) (w:World) (hs:Slc 5 RTy w A c ts):
 Calls Tryz.prog 84 #[.slice A ts.length c,.int .i64 (k:Int)] w fun e' w'=>∃B d s,e' = .returned (.slice B s.length d)/\Srt s (fun r=>∃x,Rt ts (k:Int) x/\PtR ts x r)/\Slc 1 RInt w' B d s/\(∀a,B=some a->w.heap.size<=a.block)/\Below w.heap.size w w':=by
 have hle:=hs.le;have hbig:=hs.big;have HS0:=aH hs;have HR:=aH (uO ts hok hn k hlt A c w hs);obtain ⟨i0,hi0,hz0,hz1,hz2⟩:=info_parts dV;obtain ⟨bb,oo,rfl,hbb,hx0⟩:=hs.sl.at_ hlt;clear hs hok hx0;go_enter Tryz.func84,Tryz.ntmps84
 go_wp2_with (first
  | (at_range;refine mB _ rfl _ rfl g 1000000 sl rfl HO1.out ?_;intro w2 cnt hrg hg2 hs2;have HB2:=aH (HB1.out.trans ((show Below w1.heap.size w1 w2 from ⟨hg2.os,hg2.tape,hg2.output,hg2.size,fun k hk=>hg2.block k hk (by simp)⟩).mono HB1.out.size));have HRG2:=aH hrg;have hr1:=HB1.out.size;clear hrg hg2 hs2 HO1)
  | (go_at_call 129;refine HR.out.mono ?_;rintro e' w1 ⟨g,sl,rfl,ho1,hnd,hrng,hrt,hgl,hb1⟩;have HO1:=aH ho1;have HRN:=aH hrng;have HRT:=aH hrt;have HB1:=aH hb1;have HGL:=aH hgl;clear ho1 hnd hrng hrt hgl hb1))
 go_frame
 obtain ⟨r,hr⟩:∃r,w1.heap.size=r:=⟨_,rfl⟩;rw [hr] at HRG2 hr1 ⊢;clear hr;go_loopw [5] (fun v wr=>∃(left:Int->Bool) (cnt:Nat) (vs o:List Int),Hid (RngI wr g r 1000000 sl left cnt)/\Hid (Below w.heap.size w wr)/\Hid (wr.ownsRow w.heap.size 3 1 v o.length (o.map (Value.int .i64)))/\Hid (Mv ts sl vs o left)) (fun _ wr=>wr.rangeLeft g r)
 case atStart=>exact ⟨_,cnt,[],[],HRG2,HB2,aH (by simpa using World.ownsRow_nil _ _ _ _),aH (Mv.start ts sl)⟩
 case round=>
  clear HRG2 HB2;obtain ⟨left,cnt,vs,o,HRG,HB,HW,HM⟩:=hrel;go_wp2_with (at_next;refine iT _ rfl _ rfl g r 1000000 sl left cnt rfl HRG.out ?_ ?_)
  ·intro hl0;have HO:=aH (HM.out.done hl0);have hol:=HM.out.len_le HRN.out;have HSO:=aH (nG wr w.heap.size _ _ _ HW.out (by simp) (by omega));clear HRG HM
   go_wp2_with (first
    | (go_at_call 130;refine HSO.out.mono ?_;rintro e' w5 ⟨rfl,ho5,hg5⟩;have HK:=aH (lW w5 _ _ _ _ ho5 (by simp) (rS _));have HG5:=aH hg5;clear ho5 hg5)
    | (go_at_call 131;refine HK.out.mono ?_;rintro e' w6 ⟨LA,lc,s,rfl,hs,hl,hlo,hg6⟩;have HLO:=aH hlo;have HSS:=aH hs;have HL:=aH hl;have HG6:=aH hg6;clear hs hl hg6 hlo))
   go_ret;have hlt3:=fun g hg=>(HW.out.lt g hg).1
   have hb5:=HB.out.grown HG5.out HB.out.size hlt3;have hb6:=hb5.grown HG6.out hb5.size hlt3;refine ⟨LA,lc,s,rfl,HSS.out.iff (fun r=>?_),HL.out,HLO.out,hb6⟩;rw [(List.mergeSort_perm _ _).mem_iff,HO.out];exact ⟨fun ⟨x,a,b⟩=>⟨x,(HRT.out x).1 a,b⟩,fun ⟨x,a,b⟩=>⟨x,(HRT.out x).2 a,b⟩⟩
  ·intro x c2 w6 cnt2 hwf hlx hxs hrg6 hlt6 hgr6 hsz6 hen;obtain ⟨ms,ss,ts',cs,hit⟩:=HRG.out.iter;have HW6:=aH (iC HW.out hit (fun _ _ e=>by cases e) hgr6);have HB6:=aH (HB.out.grown hgr6 HB.out.size (fun g hg=>(by injection hg with hg;subst hg;exact hr1)));have HRG6:=aH hrg6;have HLT:=aH hlt6;have hol:=HM.out.len_le HRN.out;have hxr:=HRN.out x hxs;obtain ⟨y,rfl⟩:=bI hxr.1;obtain ⟨b2,o2,hA,_,hx⟩:=(HS0.out.keep RTy.keeps HB6.out).sl.at_ (i:=y) (by omega);injection hA with hA
   injection hA with hA1 hA2
   subst hA1 hA2;have htg:ts[((y:Nat):Int).toNat]?=some ts[y]:=by simp [show y<ts.length by omega]
   obtain ⟨t,ht⟩:∃t,ts[y]=t:=⟨_,rfl⟩;rw [ht] at hx htg;obtain ⟨r1,r2,r3,r4,A2,c3,r5,r6,r7,r8⟩:=hx;have hle6:=HB6.out.size;by_cases h3:t.kind=3
   ·have HMV:=aH (HM.out.take hxs hlx htg h3);simp only [ne_eq,decide_not] at HMV;rw [h3] at r1;have hown2:=HW6.out.alloc (.cells #[.int .i64 t.reg] 3);obtain ⟨VA,vc,rfl⟩:=cW HW.out;clear r2 r4 r5 r6 r7 r8 htg hit hwf hlx hxs hrg6 hlt6 hgr6 hsz6 HM HW h3 ht;go_wp2_with (at_builtin;refine wpList_append_own _ rfl _ _ 48 rfl w.heap.size 3 i0 (.int .i64 0) 1 8 Tryz.underlying48 hi0 hz0 hz1 hz2 rfl (by decide) _ _ _ rfl hown2 ⟨w6.heap.size,0,none⟩ 1 1 [.int .i64 t.reg] rfl rfl (cell_one_new _ _ _) (fun u hu=>by simp at hu;subst hu;rfl) (by unfold maxLen;omega) (by omega) (by simp;omega) ?_;intro v' w7 hown' hgrow _)
    have hal6:=alF w6 (.cells #[.int .i64 t.reg] 3);have HRG7:=aH ((HRG6.out.below hal6).grow1 hown2 hgrow);have HB7:=aH ((HB6.out.trans (hal6.mono hle6)).grown hgrow (by simp;omega) (fun g hg=>(hown2.lt g hg).1));go_roundw
    case rel=>exact ⟨_,cnt2,_,_,HRG7,HB7,aH (by rw [bV,bE];exact hown'),HMV⟩
    case measure=>rw [HRG7.out.left_eq,HRG.out.left_eq];exact HLT.out
   ·have e3:(t.kind == 3)=false:=by simp [h3]
    have HMV:=aH (HM.out.pass hxs hlx (fun r ⟨u,hu,hk,_⟩=>h3 (by rw [htg] at hu;injection hu with hu;rw [hu];exact hk)));simp only [ne_eq,decide_not] at HMV;clear r2 r3 r4 r5 r6 r7 r8 htg hit hwf hlx hxs hrg6 hlt6 hgr6 hsz6 HM HW h3 ht;go_wp2_with fail
    go_roundw
    case rel=>exact ⟨_,cnt2,_,_,HRG6,HB6,HW6,HMV⟩
    case measure=>rw [HRG6.out.left_eq,HRG.out.left_eq];exact HLT.out
end
section
open Go Go.RowKit Go.Maps
attribute [local irreducible] Calls
theorem uN {pairs:List (Int × Int)} {z y:Int}:z∈relL pairs true y↔(z,y)∈pairs:=by
 simp only [relL,if_true,cN,List.mem_filter,decide_eq_true_eq];constructor
 ·rintro ⟨⟨p,q⟩,⟨h1,h2⟩,h3⟩;simp only at h2 h3;subst h2 h3;exact h1
 ·intro h;exact ⟨(z,y),⟨h,rfl⟩,rfl⟩
theorem OwnI.eq {w:World} {b n:Nat} {sl o:List Int} (h:OwnI w b n sl) (e:∀z,z∈sl↔z∈o):OwnI w b n o:=by
 have:inF sl=inF o:=by funext z;unfold inF;exact decide_eq_decide.2 (e z)
 unfold OwnI at *;rwa [this] at h
structure ClW (w:World) (o:List Int) (v:Value) (W:World):Prop where
 low:Below w.heap.size w W
 own:OwnI W w.heap.size 1000000 o
 row:W.ownsRow (w.heap.size+1) 3 1 v o.length (o.map (Value.int .i64))
theorem ClW.lt {w:World} {o:List Int} {v:Value} {W:World} (h:ClW w o v W):w.heap.size+1<=W.heap.size:=h.own.lt
theorem ClW.keep {w:World} {o:List Int} {v:Value} {W W':World} (h:ClW w o v W) (hb:Below W.heap.size W W'):ClW w o v W':=
 ⟨h.low.trans (hb.mono h.low.size),h.own.below hb,dE h.row hb⟩
def ClM (w:World) (o:List Int) (y:Int) (v:Value) (W:World):Prop:=
 Below w.heap.size w W/\OwnI W w.heap.size 1000000 (o ++ [y])/\W.ownsRow (w.heap.size+1) 3 1 v o.length (o.map (Value.int .i64))
theorem ClW.put {w:World} {o:List Int} {v:Value} {W W':World} (h:ClW w o v W) {y:Int} (ho:OwnI W' w.heap.size 1000001 (y :: o)) (hg:W.grownBy W' (some w.heap.size)) (hr:∀z∈y :: o,0<=z/\z<((1000000:Nat):Int)):ClM w o y v W':=by
 obtain ⟨es,c,hm⟩:=h.own.obj;exact ⟨h.low.trans (dN hg (bA _) h.low.size),(ho.tight hr).eq (fun z=>by simp [or_comm]),iC h.row hm (fun _ _ e=>by cases e) hg⟩
theorem ClM.add {w:World} {o:List Int} {y:Int} {v v':Value} {W W':World} (h:ClM w o y v W) {x:Obj} (hown:(W.alloc x).ownsRow (w.heap.size+1) 3 1 v o.length (o.map (Value.int .i64))) (h1:W'.ownsRow (w.heap.size+1) 3 1 v' (o.length+1) (o.map (Value.int .i64) ++ [.int .i64 y])) (hg:(W.alloc x).grownBy W' v.ownBlock):ClW w (o ++ [y]) v' W':=by
 obtain ⟨h0,ho,hr⟩:=h;have hsz:=ho.lt;have hal:=alF W x;have hlt:=fun g hg=>(hown.lt g hg).1
 refine ⟨(h0.trans (hal.mono h0.size)).grown hg (by simp;omega) (fun g e=>by have:=hlt g e;omega),?_,by rw [bV,bE];exact h1⟩;exact (ho.below hal).block (hg.block _ (by simp;omega) (fun e=>by have:=hlt _ e.symm;omega))
theorem qJ (pairs:List (Int × Int)) (n:Nat) (r:Nat) (w:World) (hR:Rel3 w r n (relL pairs)) (hr:∀p∈pairs,0<=p.1/\p.1<(n:Int)/\0<=p.2/\p.2<(n:Int)) (hn:n<=65536) (hl:pairs.length<=65535)
 (l:List Int) (A:Option Addr) (c:Nat) (hs:Slc 1 RInt w A c l):
 Calls Tryz.prog 85 #[.pointer (some ⟨r,0,none⟩),.slice A l.length c] w fun e' w'=>∃B d s,e' = .returned (.slice B s.length d)/\Srt s (clP pairs n l)/\Slc 1 RInt w' B d s/\(∀a,B=some a->w.heap.size<=a.block)/\Below w.heap.size w w':=by
 obtain ⟨M,hM,hLK⟩:=hR;obtain ⟨x0,x1,x2⟩:=gY hM;have HX0:=aH x0;have HX2:=aH x2;have hle:=hs.le;have hbig:=hs.big;have HSL:=aH hs;have HLK:=aH (fun y h0 h9=>hLK true y h0 h9);have HRP:=aH hr;obtain ⟨i0,hi0,hz0,hz1,hz2⟩:=info_parts dV;have hmm:= @run_makeMap Tryz.prog;clear hs hLK hr hM x0 x1 x2;go_enter Tryz.func85,Tryz.ntmps85
 go_wp2_with fail
 go_loopw [6,15] (fun v i wr=>∃(k:Nat) (o:List Int),i = .int .i64 k/\k<=l.length/\Hid (ClW w o v wr)/\Hid (Cl pairs n l o k 0)) (fun _ i _=>l.length - (intOf i).toNat)
 case atStart=>exact ⟨0,[],rfl,by omega,aH ⟨aJ,(OwnI.made w).mono (by omega),by simpa using World.ownsRow_nil _ _ _ _⟩,aH (Cl.start pairs n l)⟩
 case round=>
  obtain ⟨k,o,rfl,hk,HW,HC⟩:=hrel;by_cases hlt:k<l.length
  case pos=>
   obtain ⟨g2,o2,rfl,hb2',hy⟩:=(HSL.out.keep RInt.keeps HW.out.low).sl.at_ hlt;have hyl:=bF hlt;obtain ⟨y,hyy⟩:∃y,l[k]=y:=⟨_,rfl⟩;rw [hyy] at hy hyl;have y0:wr.cell? ⟨g2,o2+k,none⟩=some (.int .i64 y):=by simpa [RInt] using hy
   have HH:=aH (nO r n y wr (cQ HW.out.low HX0.out));have hsz:=HW.out.lt;by_cases hin:0<=y/\y<(n:Int)
   case neg=>
    have E1:Hid ((decide (0<=y) && decide (y<(n:Int)))=false):=aH (by simp;omega);have HCN:=aH (HC.out.pass hyl (fun h0 h1=>absurd ⟨h0,h1⟩ hin));clear hin hyl hy HC;go_wp2_with (go_at_call 132;refine HH.out.mono ?_;rintro e' w1 ⟨rfl,hw⟩;obtain rfl:=hw.symm;rw [E1.out])
    go_roundw
    case rel=>exact ⟨k+1,o,by go_num,by omega,HW,HCN⟩
    case measure=>simp [intOf];omega
   case pos=>
   have E1:Hid ((decide (0<=y) && decide (y<(n:Int)))=true):=aH (by simp [hin]);have keyy:=key3 (a:=y) hin.1 (by omega);have hown:=HW.out.own;by_cases hm:y∈o
   case pos=>
    have HFB:Hid (i64F (inF o) (.int .i64 y)=true):=aH (by simp [i64F,inF,hm]);have HCN:=aH (HC.out.pass hyl (fun _ _=>hm));have hlk:=hown.toB.look law3 Tryz.underlying129 Tryz.underlying4 (eF _) keyy;rw [HFB.out] at hlk;clear hin hyl hy HC hm;go_wp2_with (go_at_call 132;refine HH.out.mono ?_;rintro e' w1 ⟨rfl,hw⟩;obtain rfl:=hw.symm;rw [E1.out])
    go_roundw
    case rel=>exact ⟨k+1,o,by go_num,by omega,HW,HCN⟩
    case measure=>simp [intOf];omega
   case neg=>
    have HFB:Hid (i64F (inF o) (.int .i64 y)=false):=aH (by simp [i64F,inF,hm]);have HCN:=aH (HC.out.add hyl hin.1 hin.2 hm)
    have HRG:Hid (∀z∈y :: o,0<=z/\z<((1000000:Nat):Int)):=aH (fun z hz=>by
     rcases List.mem_cons.1 hz with rfl | hz
     ·omega
     ·have:=HC.out.rng z hz;omega)
    have hol:=HC.out.len;have hrow:=HW.out.row;obtain ⟨VA,vc,rfl⟩:=cW hrow;have hlk:=hown.toB.look law3 Tryz.underlying129 Tryz.underlying4 (eF _) keyy;rw [HFB.out] at hlk;clear hin hyl hy HC hm hrow
    go_wp2_with (first
     | (go_at_call 132;refine HH.out.mono ?_;rintro e' w1 ⟨rfl,hw⟩;obtain rfl:=hw.symm;rw [E1.out])
     | (at_mapUpdate;refine fB _ rfl _ _ _ rfl w.heap.size 1000000 o rfl hown (by unfold maxLen;omega) y rfl rfl keyy ?_;intro w7 ho7 hg7;have HM7:=aH (HW.out.put ho7 hg7 HRG.out);have hown7:=HM7.out.2.2.alloc (.cells #[.int .i64 y] 3);have hsz7:w.heap.size<w7.heap.size:=HM7.out.2.1.lt;clear ho7 hg7)
     | (at_builtin;refine wpList_append_own _ rfl _ _ 48 rfl (w.heap.size+1) 3 i0 (.int .i64 0) 1 8 Tryz.underlying48 hi0 hz0 hz1 hz2 rfl (by decide) _ _ _ rfl hown7 ⟨w7.heap.size,0,none⟩ 1 1 [.int .i64 y] rfl rfl (cell_one_new _ _ _) (fun u hu=>by simp at hu;subst hu;rfl) (by unfold maxLen;omega) (by omega) (by simp;omega) ?_;intro v' w8 hown' hgrow _;have HW8:=aH (HM7.out.add hown7 hown' hgrow);clear hown' hgrow))
    go_roundw
    case rel=>exact ⟨k+1,o ++ [y],by go_num,by omega,HW8,HCN⟩
    case measure=>simp [intOf];omega
  case neg=>
  obtain rfl:k=l.length:=by omega
  clear hlt hk;go_wp2_with fail
  go_loopw [6,9] (fun v jv wr=>∃(j:Nat) (o:List Int),jv = .int .i64 j/\j<=o.length/\Hid (ClW w o v wr)/\Hid (Cl pairs n l o l.length j)) (fun _ jv _=>n - (intOf jv).toNat)
  case atStart=>exact ⟨0,o,rfl,by omega,HW,HC⟩
  case round=>
   clear HW HC;obtain ⟨j,o,rfl,hj,HW,HC⟩:=hrel;have hol:=HC.out.len;obtain ⟨VA,vc,rfl⟩:=cW HW.out.row;have HSO:=aH (qY HW.out.row (by simp));have hso:=HSO.out.le;have hsb:=HSO.out.big;by_cases hlt:j<o.length
   case pos=>
    obtain ⟨g2,o2,rfl,hb2',hy⟩:=HSO.out.sl.at_ hlt;have hyl:=bF hlt;have hyr:=HC.out.rng _ (bO hlt);obtain ⟨y,hyy⟩:∃y,o[j]=y:=⟨_,rfl⟩;rw [hyy] at hy hyl hyr;have y0:wr.cell? ⟨g2,o2+j,none⟩=some (.int .i64 y):=(by simpa [RInt] using hy);obtain ⟨A3,c3,hlk,hsl⟩:=HLK.out y hyr.1 (by omega);have hS:wr.drew.cell? ⟨r,2,none⟩=some (.map (some (M true)))/\wr.drew.cell? ⟨g2,o2+j,none⟩=some (.int .i64 y)/\(Instr.lookup 88 (.map (some (M true))) (.int .i64 y) false).run Tryz.prog wr.drew = .ok (.slice A3 (relL pairs true y).length c3) wr.drew:=⟨cQ HW.out.low.drew HX2.out,y0,hlk wr.drew HW.out.low.drew⟩;have hle3:=hsl.le;have hbig3:=hsl.big;have HSL3:=aH hsl;have hyn:=kA pairs true y;have HCM:=aH (Cm.start HC.out hyl (ys:=relL pairs true y) (fun z=>uN));clear hy hyl hlk hsl HC HSO;generalize relL pairs true y=ys at *;clear y0;go_wp2_with fail
    refine cZ (S:=fun X=>X.cell? ⟨r,2,none⟩=some (.map (some (M true)))/\X.cell? ⟨g2,o2+j,none⟩=some (.int .i64 y)/\(Instr.lookup 88 (.map (some (M true))) (.int .i64 y) false).run Tryz.prog X = .ok (.slice A3 ys.length c3) X) [0,1,2,3,4,5,6,7,8,9,10] (by kernel_rfl) ?_;(iterate 11 (refine cY (v:=?_) ?_ hS ?_;rotate_left;(next=>(rintro X ⟨q1,q2,q3⟩;(try simp only [aK]);go_simp;rfl));simp only [aO]));refine dI ?_;clear hS;have HW2:=aH (HW.out.keep (aZ _ _).drew);obtain ⟨W2,hW2⟩:∃W2,wr.drew=W2:=⟨_,rfl⟩;rw [hW2] at HW2 ⊢;clear hW2 HW;go_wp2_with fail
    go_loopw [6,51] (fun v i wr=>∃(k:Nat) (o:List Int),i = .int .i64 k/\k<=ys.length/\j<o.length/\Hid (ClW w o v wr)/\Hid (Cm pairs n l o j y ys k)) (fun _ i _=>ys.length - (intOf i).toNat)
    case atStart=>exact ⟨0,o,rfl,by omega,hlt,HW2,HCM⟩
    case round=>
     clear HW2 HCM;obtain ⟨k,o,rfl,hk,hjo,HW,HC⟩:=hrel;by_cases hlk:k<ys.length
     case neg=>
      obtain rfl:k=ys.length:=by omega
      have HCL:=aH (HC.out.close (bA _));have hoo:=HCL.out.len;go_wp2_with fail
      go_roundw
      case rel=>exact ⟨j+1,o,by go_num,by omega,HW,HCL⟩
      case measure=>simp [intOf];omega
     case pos=>
     obtain ⟨g3,o3,rfl,hb3',hz⟩:=(HSL3.out.keep RInt.keeps HW.out.low).sl.at_ hlk;have hzl:=bF hlk;have hzr:=HRP.out _ ((HC.out.mem _).1 (bO hlk));obtain ⟨z,hzz⟩:∃z,ys[k]=z:=⟨_,rfl⟩;rw [hzz] at hz hzl hzr;simp only at hzr;have y0:wr.cell? ⟨g3,o3+k,none⟩=some (.int .i64 z):=(by simpa [RInt] using hz);have keyz:=key3 (a:=z) hzr.1 (by omega);have hown:=HW.out.own;have hsz:=HW.out.lt;by_cases hm:z∈o
     case pos=>
      have HFB:Hid (i64F (inF o) (.int .i64 z)=true):=aH (by simp [i64F,inF,hm]);have HCN:=aH (HC.out.pass hzl hm);clear hzl hz HC hm hzr;go_wp2_with (at_lookup;refine dB _ rfl _ _ 129 rfl 3 4 law3 Tryz.underlying129 Tryz.underlying4 (eF _) _ _ _ rfl hown.toB _ _ rfl keyz ?_;rw [HFB.out])
      go_roundw
      case rel=>exact ⟨k+1,o,by go_num,by omega,hjo,HW,HCN⟩
      case measure=>simp [intOf];omega
     case neg=>
      have HFB:Hid (i64F (inF o) (.int .i64 z)=false):=aH (by simp [i64F,inF,hm]);have HCN:=aH (HC.out.add HRP.out hzl hm)
      have HRG:Hid (∀u∈z :: o,0<=u/\u<((1000000:Nat):Int)):=aH (fun u hu=>by
       rcases List.mem_cons.1 hu with rfl | hu
       ·omega
       ·have:=HC.out.base.rng u hu;omega)
      have hol:=HC.out.base.len;have hrow:=HW.out.row;obtain ⟨VA,vc,rfl⟩:=cW hrow;clear hzl hz HC hm hrow hzr
      go_wp2_with (first
       | (at_lookup;refine dB _ rfl _ _ 129 rfl 3 4 law3 Tryz.underlying129 Tryz.underlying4 (eF _) _ _ _ rfl hown.toB _ _ rfl keyz ?_;rw [HFB.out])
       | (at_mapUpdate;refine fB _ rfl _ _ _ rfl w.heap.size 1000000 o rfl hown (by unfold maxLen;omega) z rfl rfl keyz ?_;intro w7 ho7 hg7;have HM7:=aH (HW.out.put ho7 hg7 HRG.out);have hown7:=HM7.out.2.2.alloc (.cells #[.int .i64 z] 3);have hsz7:w.heap.size<w7.heap.size:=HM7.out.2.1.lt;clear ho7 hg7)
       | (at_builtin;refine wpList_append_own _ rfl _ _ 48 rfl (w.heap.size+1) 3 i0 (.int .i64 0) 1 8 Tryz.underlying48 hi0 hz0 hz1 hz2 rfl (by decide) _ _ _ rfl hown7 ⟨w7.heap.size,0,none⟩ 1 1 [.int .i64 z] rfl rfl (cell_one_new _ _ _) (fun u hu=>by simp at hu;subst hu;rfl) (by unfold maxLen;omega) (by omega) (by simp;omega) ?_;intro v' w8 hown' hgrow _;have HW8:=aH (HM7.out.add hown7 hown' hgrow);clear hown' hgrow))
      go_roundw
      case rel=>exact ⟨k+1,o ++ [z],by go_num,by omega,by simp;omega,HW8,HCN⟩
      case measure=>simp [intOf];omega
   case neg=>
    have HD:=aH (HC.out.done (show o.length<=j by omega));have HND:=aH HC.out.nd;have HST:=aH (nG wr (w.heap.size+1) _ _ _ HW.out.row (by simp) (by omega));clear HC HSO;go_wp2_with (go_at_call 130;refine HST.out.mono ?_;rintro e' w5 ⟨rfl,ho5,hg5⟩;have HO5:=aH ho5;have HG5:=aH hg5;clear ho5 hg5)
    go_ret;have hlt3:=fun g hg=>(HW.out.row.lt g hg).1
    have hr:=qY (l:=o.mergeSort fun x y=>decide (x<=y)) (A:=VA) (c:=vc) (by simpa using HO5.out) (by simp);refine ⟨VA,vc,o.mergeSort fun x y=>decide (x<=y),by simp,(qX HND.out (fun _=>Iff.rfl)).iff (fun z=>HD.out z),hr,fun a ha=>?_,HW.out.low.grown HG5.out HW.out.low.size (fun g hg=>by have:=hlt3 g hg;omega)⟩;have:=hlt3 a.block (by subst ha;rfl);omega
end
end Go.Proofs.YtkaigkfbkpinlaaGreatDoor
