/-
  Parts of the proof: V29 W15 W16 V20 V21 V30 V28 Memo V62.
-/
import Derived.Test.YtcfchohkmkilpaaGreatDoorLP0
import Derived.Test.YtcfchohkmkilpaaGreatDoorLP5
import Derived.Test.YtcfchohkmkilpaaGreatDoorLP4
import Derived.Test.YtcfchohkmkilpaaGreatDoorLP2
import Derived.Test.YtcfchohkmkilpaaGreatDoorLP3
import Derived.WideKeyPair
import Derived.WideKeyArr
namespace Go.Proofs.YtcfchohkmkilpaaGreatDoor
set_option maxRecDepth 100000
set_option maxHeartbeats 16000000
section
open Go Go.RowKit Go.Maps
def FineT (ts:List Ty) (sl:List Int) (x:Int):Prop:=0<=x/\∀(h:x.toNat<ts.length),ts[x.toNat].kind≠3->∀f∈ts[x.toNat].flds,CovT ts sl f
theorem FineT.mono {ts:List Ty} {sl sl':List Int} {x:Int} (h:FineT ts sl x) (hs:∀y∈sl,y∈sl'):FineT ts sl' x:=
 ⟨h.1,fun hl hk f hf=>(h.2 hl hk f hf).mono hs⟩
def NewT (ts:List Ty) (sl sl':List Int):Prop:=(∀x∈sl,x∈sl')/\∀x∈sl',x∈sl\/FineT ts sl' x
theorem NewT.refl (ts:List Ty) (sl:List Int):NewT ts sl sl:=⟨fun _ h=>h,fun _ h=>Or.inl h⟩
theorem NewT.trans {ts:List Ty} {a b c:List Int} (h:NewT ts a b) (k:NewT ts b c):NewT ts a c:=
 ⟨fun x hx=>k.1 x (h.1 x hx),fun x hx=>by
   rcases k.2 x hx with hb | hb
   ·rcases h.2 x hb with ha | ha
    ·exact Or.inl ha
    ·exact Or.inr (ha.mono k.1)
   ·exact Or.inr hb⟩
theorem NewT.mark {ts:List Ty} {a b:List Int} {i:Nat} (hi:i<ts.length) (h:NewT ts ((i:Int) :: a) b) (hf:∀f∈ts[i].flds,CovT ts b f):NewT ts a b:=
 ⟨fun x hx=>h.1 x (List.mem_cons_of_mem _ hx),fun x hx=>by
   rcases h.2 x hx with ha | ha
   ·rcases List.mem_cons.1 ha with rfl | ha
    ·exact Or.inr ⟨by omega,fun _ _ f hff=>hf f (by simpa using hff)⟩
    ·exact Or.inl ha
   ·exact Or.inr ha⟩
theorem xAH {ts:List Ty} (hok:TyOk ts) {sl:List Int} (h:NewT ts [] sl) {i:Int} (hc:CovT ts sl i):copB ts i=true:=
 sG hok (fun x hx hl h0 hk f hf=>by
  rcases h.2 x hx with hn | hn
  ·exact absurd hn (by simp)
  ·exact hn.2 hl hk f hf) (i.toNat+1) i (by omega) hc
theorem dW {w w':World} {row:Option Nat} (hg:w.grownBy w' row) {p:Addr} {v:Value} (h:w.cell? p=some v) (hne:some p.block≠row):w'.cell? p=some v:=
 (World.cell?_of_block (hg.block _ (cD _ _ h) hne)).trans h
theorem eR {w w':World} (h:Below w.heap.size w w') (row:Option Nat):w.grownBy w' row:=
 ⟨h.os,h.tape,h.output,h.size,fun i hi _=>h.block i hi⟩
structure CopE where
 w0:World
 A:Option Addr
 c:Nat
 pl:Nat
 ps:Nat
 pc:Nat
 M:Nat
structure CopE.Ok (E:CopE) (ts:List Ty):Prop where
 ty:Slc 5 RTy E.w0 E.A E.c ts
 tyok:TyOk ts
 n:ts.length<=65535
 M:E.w0.heap.size<=E.M
 l:E.M≠E.pl
 s:E.M≠E.ps
 c:E.M≠E.pc
structure CopE.St (E:CopE) (n:Nat) (W:World) (sl:List Int) (F:Value):Prop where
 low:Below E.w0.heap.size E.w0 W
 l:W.cell? ⟨E.pl,0,none⟩=some (.slice E.A n E.c)
 s:W.cell? ⟨E.ps,0,none⟩=some (.map (some E.M))
 c:W.cell? ⟨E.pc,0,none⟩=some F
 own:OwnB Tryz.prog 3 4 W E.M sl.length (i64F (inF sl))
 nd:sl.Nodup
 rng:∀x∈sl,0<=x/\x<(n:Int)
theorem CopE.St.len {E:CopE} {n:Nat} {W:World} {sl:List Int} {F:Value} (h:E.St n W sl F):sl.length<=n:=dR n sl h.nd h.rng
theorem CopE.St.keep {E:CopE} {n:Nat} {W W':World} {sl:List Int} {F:Value} (h:E.St n W sl F) (hb:Below W.heap.size W W'):E.St n W' sl F:=
 ⟨h.low.trans (hb.mono h.low.size),cO hb h.l,cO hb h.s,cO hb h.c,h.own.below hb,h.nd,h.rng⟩
theorem CopE.St.put {E:CopE} {ts:List Ty} {n:Nat} {W W':World} {sl:List Int} {F:Value} (h:E.St n W sl F) (hE:E.Ok ts) {i:Int} (hi:i∉sl) (hr:0<=i/\i<(n:Int))
 (hown:OwnB Tryz.prog 3 4 W' E.M (sl.length+1) (i64F (inF (i :: sl)))) (hg:W.grownBy W' (some E.M)):E.St n W' (i :: sl) F:=by
 have hc:∀(p:Nat) (v:Value),E.M≠p->W.cell? ⟨p,0,none⟩=some v->W'.cell? ⟨p,0,none⟩=some v:=fun p v hne hv=>
  dW hg hv (by simpa using (Ne.symm hne))
 refine ⟨h.low.trans (eH hg hE.M h.low.size),hc _ _ hE.l h.l,hc _ _ hE.s h.s,hc _ _ hE.c h.c,hown,List.nodup_cons.2 ⟨hi,h.nd⟩,fun x hx=>?_⟩;rcases List.mem_cons.1 hx with rfl | hx
 ·exact hr
 ·exact h.rng x hx
def CopE.Q (E:CopE) (ts:List Ty) (F:Value) (sl:List Int) (i:Int) (q:Bool) (W':World):Prop:=
 (q=true/\∃sl',NewT ts sl sl'/\CovT ts sl' i/\E.St ts.length W' sl' F)\/(q=false/\copB ts i=false/\Below E.w0.heap.size E.w0 W')
end
section
open Go.RowKit Go.Shelf
theorem nJ (ts:List Ty) (ls:List Lc) (l:Int) (ps:List Pj) (A B C:Option Addr) (c d e:Nat) (w:World) (hts:Slc 5 RTy w A c ts) (hls:Slc 2 RLc w B d ls) (hps:Slc 2 RPj w C e ps) (hok:Okay ts ls) (hty:(tyOf ts ls l ps).2=0):
 Calls Tryz.prog 167 #[.slice A ts.length c,.slice B ls.length d,.agg #[.int .i64 l,.slice C ps.length e]] w fun e' w'=>∃A' c',e' = .returned (.slice A' (refsOf ts ls l ps).1.length c')/\Slc 5 RTy w' A' c' (refsOf ts ls l ps).1/\Below w.heap.size w w':=by
 have HT:=aF hty;have HOK:=aF hok;have HLS:=aF hls;have HPS:=aF hps;have HTS:=aF hts;have hp32:=(kP (eL hty).1).2;have hple:=hps.le;have hpbig:=hps.big;have htle:=hts.le;have htbig:=hts.big;have hfin:Hid (refsOf ts ls l (ps.take ps.length)=refsOf ts ls l ps):=aF (by rw [bZ]);clear hts hls hps hok hty;obtain ⟨i0,hi,hz0,hz1,hz2⟩:=info_parts xBN;go_enter Tryz.func167,Tryz.ntmps167
 go_wp2
 go_loopw [7,8] (fun v i wr=>∃k:Nat,k<=ps.length/\i = .int .i64 k/\wr.cell? ⟨w.heap.size,0,none⟩=some (.int .i64 l)/\wr.cell? ⟨w.heap.size,1,none⟩=some (.slice C ps.length e)/\Below w.heap.size w wr/\∃ys:List TH,wr.ownsRow (w.heap.size+1) 65 5 v ys.length (ys.flatMap fH)/\(∀y∈ys,GoodH w y)/\Hid (ys.map (·.t)=(refsOf ts ls l (ps.take k)).1)) (fun _ i _=>ps.length - (intOf i).toNat)
 case atStart=>exact ⟨0,by omega,rfl,by go_simp,by go_simp,(aX _ _).alloc (aY _) _,[],World.ownsRow_nil _ _ _ _,by simp,aF (by rw [List.take_zero,tS];rfl)⟩
 case round=>
  obtain ⟨k,hk,rfl,y1,y2,hB,ys,hown,hgd,hys⟩:=hrel;have hwlt:=cD _ _ y1;by_cases hlt:k<ps.length
  ·obtain ⟨bC,oC,rfl,hbC,hrC⟩:=HPS.out.sl.at_ hlt;obtain ⟨g1,g2⟩:=RPj.keeps _ _ _ w.heap.size _ _ _ (aY _) hbC hB hrC
   have hsn:Hid ((refsOf ts ls l (ps.take (k+1))).1=(refsOf ts ls l (ps.take k)).1 ++ refT ts (tyOf ts ls l (ps.take k)).1 ps[k]):=aF (by
    have h:=iE HT.out (k+1);rw [bF hlt] at h ⊢
    exact pU h)
   have hyl:Hid (ys.length<=33):=aF (by
    have h:=iZ ts ls l (ps.take k);rw [<- hys.out,cF] at h
    exact h)
   by_cases hkd:ps[k].kind=0
   ·have e2:(ps[k].kind == 0)=true:=by simp [hkd]
    have hij:=fW HOK.out (iE HT.out k);obtain ⟨j,hj⟩:=bG hij.1;have hj2:j<ts.length:=(by omega);obtain ⟨bT,oT,rfl,hbT,hrT⟩:=HTS.out.sl.at_ hj2;have htl:(ps.take k).length=k:=by simp;omega
    have hRec:Hid (∀W,Below w.heap.size w W->Calls Tryz.prog 126 #[.slice (some ⟨bT,oT,none⟩) ts.length c,.slice B ls.length d,.agg #[.int .i64 l,.slice (some ⟨bC,oC,none⟩) k e]] W fun e' w'=>e' = .returned (.tuple #[.int .i64 j,.int .i64 0])/\Below W.heap.size W w'):=aF (fun W hW=>by
     have h:=jQ ts ls l k (ps.take k) htl (some ⟨bT,oT,none⟩) B (some ⟨bC,oC,none⟩) c d e W (HTS.out.keep RTy.keeps hW) (HLS.out.keep RLc.keeps hW) ((HPS.out.takeN k).keep RPj.keeps hW) HOK.out;rw [htl,hj,iE HT.out k] at h
     exact h)
    have hsn2:Hid ((refsOf ts ls l (ps.take (k+1))).1=(refsOf ts ls l (ps.take k)).1 ++ [ts[j]]):=aF (by
     rw [hsn.out,refT,bA hkd,hj,bV,bD hj2]
     rfl)
    generalize ps[k]=x at *;clear hkd hij hj hrC hsn;have hwk:IntKind.i64.wrap (k:Int)=(k:Int):=by rw [IntKind.wrap_i64];omega
    go_wp2
    refine fT (S:=fun X=>X.cell? ⟨w.heap.size,0,none⟩=some (.int .i64 l)/\X.cell? ⟨w.heap.size,1,none⟩=some (.slice (some ⟨bC,oC,none⟩) ps.length e)) (t:=15) (by kernel_rfl) ?_;have hS:wr.drew.cell? ⟨w.heap.size,0,none⟩=some (.int .i64 l)/\wr.drew.cell? ⟨w.heap.size,1,none⟩=some (.slice (some ⟨bC,oC,none⟩) ps.length e):=⟨y1,y2⟩;refine cW (i:=0) (v:=?tv0) rfl (by kernel_rfl) (by kernel_rfl) (by kernel_rfl) (by kernel_rfl) (fun _ _ _ h=>h) (Or.inl ⟨by rfl,?ty0⟩) hS ?tr0
    case ty0=>
     rintro X ⟨s1,s2⟩;simp only [aL];go_simp;rfl
    simp only [aL,Act.put,aK];refine cW (i:=1) (v:=?tv1) rfl (by kernel_rfl) (by kernel_rfl) (by kernel_rfl) (by kernel_rfl) (fun _ _ _ h=>h) (Or.inl ⟨by rfl,?ty1⟩) hS ?tr1
    case ty1=>
     rintro X ⟨s1,s2⟩;simp only [aL];go_simp;rfl
    simp only [aL,Act.put,aK];refine cW (i:=2) (v:=?tv2) rfl (by kernel_rfl) (by kernel_rfl) (by kernel_rfl) (by kernel_rfl) (fun _ _ _ h=>h) (Or.inl ⟨by rfl,?ty2⟩) hS ?tr2
    case ty2=>
     rintro X ⟨s1,s2⟩;simp only [aL];go_simp;rfl
    simp only [aL,Act.put,aK];refine cW (i:=3) (v:=?tv3) rfl (by kernel_rfl) (by kernel_rfl) (by kernel_rfl) (by kernel_rfl) (fun _ _ _ h=>h) (Or.inl ⟨by rfl,?ty3⟩) hS ?tr3
    case ty3=>
     rintro X ⟨s1,s2⟩;simp only [aL];go_simp;rfl
    simp only [aL,Act.put,aK];refine cW (i:=4) (v:=?tv4) rfl (by kernel_rfl) (by kernel_rfl) (by kernel_rfl) (by kernel_rfl) (fun _ _ _ h=>h) (Or.inl ⟨by rfl,?ty4⟩) hS ?tr4
    case ty4=>
     rintro X ⟨s1,s2⟩;simp only [aL];go_simp;rfl
    simp only [aL,Act.put,aK];refine cW (i:=5) (v:=?tv5) rfl (by kernel_rfl) (by kernel_rfl) (by kernel_rfl) (by kernel_rfl) (fun _ _ _ h=>h) (Or.inl ⟨by rfl,?ty5⟩) hS ?tr5
    case ty5=>
     rintro X ⟨s1,s2⟩;simp only [aL];go_simp;rfl
    simp only [aL,Act.put,aK];refine cW (i:=6) (v:=?tv6) rfl (by kernel_rfl) (by kernel_rfl) (by kernel_rfl) (by kernel_rfl) (fun _ _ _ h=>h) (Or.inl ⟨by rfl,?ty6⟩) hS ?tr6
    case ty6=>
     rintro X ⟨s1,s2⟩;simp only [aL];go_simp;rfl
    simp only [aL,Act.put,aK];refine cW (i:=7) (v:= .slice (some ⟨bC,oC,none⟩) k e) rfl (by kernel_rfl) (by kernel_rfl) (by kernel_rfl) (by kernel_rfl) (fun _ _ _ h=>h) (Or.inl ⟨by rfl,?ty7⟩) hS ?tr7
    case ty7=>
     rintro X ⟨s1,s2⟩;simp only [aL];go_simp;(try simp only [hwk]);first | rfl | (intro h;omega) | (rw [bA (by omega)];simp)
    simp only [aL,Act.put,aK];refine cW (i:=8) (v:=?tv8) rfl (by kernel_rfl) (by kernel_rfl) (by kernel_rfl) (by kernel_rfl) (fun _ _ _ h=>h) (Or.inl ⟨by rfl,?ty8⟩) hS ?tr8
    case ty8=>
     rintro X ⟨s1,s2⟩;simp only [aL];go_simp;rfl
    simp only [aL,Act.put,aK];refine eB (i:=9) (by kernel_rfl) rfl (fun K1 hK1=>?_);simp only [aL,Act.put,aK];rw [bA (by rfl)];go_simp;refine (hRec.out _ hB.drew).mono ?_;rintro e' w2 ⟨rfl,hb2⟩;have hS2:w2.cell? ⟨w.heap.size,0,none⟩=some (.int .i64 l)/\w2.cell? ⟨w.heap.size,1,none⟩=some (.slice (some ⟨bC,oC,none⟩) ps.length e):=⟨cO hb2 hS.1,cO hb2 hS.2⟩;refine hK1.out _ _ (fun _=>hS2) ?_;refine cW (i:=10) (v:=?tv10) rfl (by kernel_rfl) (by kernel_rfl) (by kernel_rfl) (by kernel_rfl) (fun _ _ _ h=>h) (Or.inl ⟨by rfl,?ty10⟩) hS2 ?tr10
    case ty10=>
     rintro X ⟨s1,s2⟩;simp only [aL];go_simp;rfl
    simp only [aL,Act.put,aK];refine cW (i:=11) (v:=?tv11) rfl (by kernel_rfl) (by kernel_rfl) (by kernel_rfl) (by kernel_rfl) (fun _ _ _ h=>h) (Or.inl ⟨by rfl,?ty11⟩) hS2 ?tr11
    case ty11=>
     rintro X ⟨s1,s2⟩;simp only [aL];go_simp;rfl
    simp only [aL,Act.put,aK];refine cW (i:=12) (v:=?tv12) rfl (by kernel_rfl) (by kernel_rfl) (by kernel_rfl) (by kernel_rfl) (fun _ _ _ h=>h) (Or.inl ⟨by rfl,?ty12⟩) hS2 ?tr12
    case ty12=>
     rintro X ⟨s1,s2⟩;simp only [aL];go_simp;rfl
    simp only [aL,Act.put,aK];refine cW (i:=13) (v:=?tv13) rfl (by kernel_rfl) (by kernel_rfl) (by kernel_rfl) (by kernel_rfl) (fun _ _ _ h=>h) (Or.inl ⟨by rfl,?ty13⟩) hS2 ?tr13
    case ty13=>
     rintro X ⟨s1,s2⟩;simp only [aL];go_simp;rfl
    simp only [aL,Act.put,aK];refine cW (i:=14) (v:=?tv14) rfl (by kernel_rfl) (by kernel_rfl) (by kernel_rfl) (by kernel_rfl) (fun _ _ _ h=>h) (Or.inl ⟨by rfl,?ty14⟩) hS2 ?tr14
    case ty14=>
     rintro X ⟨s1,s2⟩;simp only [aL];go_simp;rfl
    simp only [aL,Act.put,aK];refine fC (by kernel_rfl) ?_ _;have hB2:Below w.heap.size w w2:=hB.drew.trans (hb2.mono hB.drew.size);have hs2:=hB2.size;have hwz:w.heap.size+1<=w2.heap.size:=cD _ _ hS2.1;have hown2:w2.ownsRow (w.heap.size+1) 65 5 u7 ys.length (ys.flatMap fH):=dG (show wr.drew.ownsRow (w.heap.size+1) 65 5 u7 ys.length (ys.flatMap fH) from dI hown (fun _ _ _ _=>rfl)) hb2;obtain ⟨y1',y2'⟩:=hS2;obtain ⟨r1,r2,r3,r4,A2,c2,r5,r6,r7,r8⟩:=hrT;have hnewG:Hid (GoodH w ⟨ts[j],A2,c2⟩):=aF ⟨r8,r6,r7⟩;replace r1:=cO hB2 r1;replace r2:=cO hB2 r2;replace r3:=cO hB2 r3;replace r4:=cO hB2 r4;replace r5:=cO hB2 r5;generalize ts[j]=t at *;have hlt2':bT<w2.heap.size:=(by omega);have hGD:=aF hgd;have hownA:=hown2.alloc (.cells #[.int .i64 t.kind,.bool t.mu,.int .i64 t.reg,.int .i64 t.elem,.slice A2 t.flds.length c2] 65);have hyl2:=hyl.out;clear hRec hS hb2 hK1 y1 y2 hown hown2 r6 r7 r8 g1 g2 hgd hB;go_wp2_with (at_builtin;refine wpList_append_own _ rfl _ _ 24 rfl (w.heap.size+1) 65 i0 _ 5 56 Tryz.underlying24 hi hz0 hz1 hz2 rfl (by decide) _ _ _ rfl hownA ⟨w2.heap.size,0,none⟩ 1 1 (fH ⟨t,A2,c2⟩) rfl rfl ?c1 ?c2 ?c3 ?c4 ?c5 ?_)
    case c1=>
     intro j' u hj';rw [add0,cell_of_row _ _ j' _ _ _ (heap_alloc_new w2 _)];simpa [fH] using hj'
    case c2=>simp [fH,Value.oneCell']
    case c3=>unfold maxLen;omega
    case c4=>omega
    case c5=>simp;omega
    intro v' w3 hown' hgrow _;have hB3:Below w.heap.size w w3:=(hB2.alloc hs2 _).grown hgrow (by simp;omega) (fun g hg=>by have:=(hownA.lt g hg).1;omega);have hb4:Below (w.heap.size+1) w2 w3:=((aX _ _).alloc hwz _).grown hgrow (by simp;omega) (fun g hg=>(hownA.lt g hg).1);have y3:=(hb4.cell (p:=⟨w.heap.size,0,none⟩) (by simp)).trans y1';have y4:=(hb4.cell (p:=⟨w.heap.size,1,none⟩) (by simp)).trans y2'
    have hown3:Hid (w3.ownsRow (w.heap.size+1) 65 5 v' (ys ++ [TH.mk t A2 c2]).length ((ys ++ [TH.mk t A2 c2]).flatMap fH)):=aF (by
     rw [bB,cG,cA,List.flatMap_singleton]
     exact hown')
    clear hown' hgrow hownA hb4 y1' y2' r1 r2 r3 r4 r5 hB2;go_wp2
    go_roundw
    case rel=>exact ⟨k+1,by omega,by go_num,y3,y4,hB3,ys ++ [⟨t,A2,c2⟩],hown3.out,fun y hy=>(List.mem_append.1 hy).elim (hGD.out y) (fun h=>by rw [bR] at h;rw [h];exact hnewG.out),aF (by rw [bS,hys.out,hsn2.out];rfl)⟩
    case measure=>simp [intOf];omega
   ·have e2:(ps[k].kind == 0)=false:=by simp [hkd]
    have hsn2:Hid ((refsOf ts ls l (ps.take (k+1))).1=(refsOf ts ls l (ps.take k)).1):=aF (by
     rw [hsn.out,refT,aZ hkd,List.append_nil])
    have hys2:=aF (hys.out.trans hsn2.out.symm);generalize ps[k]=x at *;have hGD:=aF hgd;clear hkd hrC hsn hsn2 hys hgd;go_wp2
    go_roundw
    case rel=>exact ⟨k+1,by omega,by go_num,y1,y2,hB,ys,hown,hGD.out,hys2⟩
    case measure=>simp [intOf];omega
  ·have hke:k=ps.length:=by omega
   subst hke;obtain ⟨A2,c2,rfl,hsl⟩:=gV hown (fun y hy=>(hgd y hy).keep hB);have hlen2:Hid (ys.length=(refsOf ts ls l ps).1.length):=aF (by rw [<- hfin.out,<- hys.out,cF]);have hsl2:Hid (Slc 5 RTy wr A2 c2 (refsOf ts ls l ps).1):=aF (by rw [<- hfin.out,<- hys.out];exact hsl);clear hgd hown hsl;go_wp2
   go_ret;exact ⟨A2,c2,by rw [hlen2.out];rfl,hsl2.out,hB⟩
theorem vR (A B C:Option Addr) (nt c nl d np e:Nat) (l i q:Int) (us:List Ty) (w:World)
 (hT:Hid (Calls Tryz.prog 126 #[.slice A nt c,.slice B nl d,.agg #[.int .i64 l,.slice C np e]] (w.alloc (.cells #[.int .i64 l,.slice C np e] 51)) fun e' w'=>e' = .returned (.tuple #[.int .i64 i,.int .i64 q])/\Below (w.heap.size+1) (w.alloc (.cells #[.int .i64 l,.slice C np e] 51)) w'))
 (hR:Hid (q=0->∀W,Below w.heap.size w W->Calls Tryz.prog 167 #[.slice A nt c,.slice B nl d,.agg #[.int .i64 l,.slice C np e]] W fun e' w'=>∃A' c',e' = .returned (.slice A' us.length c')/\Slc 5 RTy w' A' c' us/\Below W.heap.size W w')):
 Calls Tryz.prog 127 #[.slice A nt c,.slice B nl d,.agg #[.int .i64 l,.slice C np e]] w fun e' w'=>e' = .returned (.bool (decide (q=0) && !us.any notMu))/\Below w.heap.size w w':=by
 have hB0:=aF (((aX _ _).alloc (aY _) _:Below w.heap.size w (w.alloc (.cells #[.int .i64 l,.slice C np e] 51))));have z1:(w.alloc (.cells #[.int .i64 l,.slice C np e] 51)).cell? ⟨w.heap.size,0,none⟩=some (.int .i64 l):=by go_simp
 have z2:(w.alloc (.cells #[.int .i64 l,.slice C np e] 51)).cell? ⟨w.heap.size,1,none⟩=some (.slice C np e):=by go_simp
 by_cases hq:q=0
 ·have hR2:=aF (hR.out hq);subst hq;go_enter Tryz.func127,Tryz.ntmps127
  go_wp2_with (first
   | (go_at_call 126;refine hT.out.mono ?_;rintro e' w1 ⟨rfl,hb1⟩;have z1':=(hb1.cell (p:=⟨w.heap.size,0,none⟩) (by simp)).trans z1;have z2':=(hb1.cell (p:=⟨w.heap.size,1,none⟩) (by simp)).trans z2)
   | (go_at_call 167;refine (hR2.out _ (hB0.out.trans (hb1.mono (Nat.le_succ _)))).mono ?_;rintro e' w2 ⟨A',c',rfl,hs',hb2⟩))
  have hB1:=hB0.out.trans (hb1.mono (Nat.le_succ _));have hB2:Below w.heap.size w w2:=hB1.trans (hb2.mono hB1.size);have hle:=hs'.le;have hbig:=hs'.big;have hz:Hid (us.any notMu=(us.drop 0).any notMu):=aF (by simp);clear hT hR hR2 hB0 hB1 hb1 hb2 z1 z2 z1' z2';go_loopw [10] (fun v wr=>wr=w2/\∃k:Nat,k<=us.length/\v = .int .i64 k/\Hid (us.any notMu=(us.drop k).any notMu)) (fun v _=>us.length - (intOf v).toNat)
  case atStart=>exact ⟨rfl,0,by omega,rfl,hz⟩
  case round=>
   obtain ⟨rfl,k,hk,rfl,he⟩:=hrel;clear hz;by_cases hlt:k<us.length
   ·obtain ⟨b,off,rfl,hb,hr⟩:=hs'.sl.at_ hlt;have hd:=aF (cV hlt);generalize us[k]=x at hr hd;obtain ⟨g1,g2,_⟩:=hr;go_wp2
    ·go_ret;exact ⟨by rw [he.out,hd.out,List.any_cons];simp [notMu, *],hB2⟩
    ·go_roundw
     case rel=>exact ⟨trivial,k+1,by omega,by go_num,aF (by rw [he.out,hd.out,List.any_cons];simp [notMu, *])⟩
     case measure=>simp [intOf];omega
   ·have hd:us.drop k=[]:=bE (by omega);have hfin:Hid (us.any notMu=false):=aF (by rw [he.out,hd];rfl);clear he hd;go_wp2
    go_ret;exact ⟨by rw [hfin.out];rfl,hB2⟩
 ·have hq2:(q != 0)=true:=by simp [hq]
  have hq3:Hid (decide (q=0)=false):=aF (by simp [hq]);clear hq hR;go_enter Tryz.func127,Tryz.ntmps127
  go_wp2_with (go_at_call 126;refine hT.out.mono ?_;rintro e' w1 ⟨rfl,hb1⟩)
  go_ret;exact ⟨by rw [hq3.out];rfl,hB0.out.trans (hb1.mono (Nat.le_succ _))⟩
theorem vQ (A B C:Option Addr) (nt c nl d np e:Nat) (l i q:Int) (us:List Ty) (w:World) (hus:us.length<=33) (hbad:q≠0->us=[])
 (hT:Hid (Calls Tryz.prog 126 #[.slice A nt c,.slice B nl d,.agg #[.int .i64 l,.slice C np e]] (w.alloc (.cells #[.int .i64 l,.slice C np e] 51)) fun e' w'=>e' = .returned (.tuple #[.int .i64 i,.int .i64 q])/\Below (w.heap.size+1) (w.alloc (.cells #[.int .i64 l,.slice C np e] 51)) w'))
 (hR:Hid (q=0->∀W,Below w.heap.size w W->Calls Tryz.prog 167 #[.slice A nt c,.slice B nl d,.agg #[.int .i64 l,.slice C np e]] W fun e' w'=>∃A' c',e' = .returned (.slice A' us.length c')/\Slc 5 RTy w' A' c' us/\Below W.heap.size W w')):
 Calls Tryz.prog 168 #[.slice A nt c,.slice B nl d,.agg #[.int .i64 l,.slice C np e]] w fun e' w'=>∃A' c',e' = .returned (.slice A' us.length c')/\Slc 1 RInt w' A' c' (us.map (·.reg))/\Below w.heap.size w w':=by
 have hB0:=aF (((aX _ _).alloc (aY _) _:Below w.heap.size w (w.alloc (.cells #[.int .i64 l,.slice C np e] 51))));have z1:(w.alloc (.cells #[.int .i64 l,.slice C np e] 51)).cell? ⟨w.heap.size,0,none⟩=some (.int .i64 l):=by go_simp
 have z2:(w.alloc (.cells #[.int .i64 l,.slice C np e] 51)).cell? ⟨w.heap.size,1,none⟩=some (.slice C np e):=by go_simp
 by_cases hq:q=0
 ·have hR2:=aF (hR.out hq);subst hq;clear hbad;go_enter Tryz.func168,Tryz.ntmps168
  go_wp2_with (first
   | (go_at_call 126;refine hT.out.mono ?_;rintro e' w1 ⟨rfl,hb1⟩;have z1':=(hb1.cell (p:=⟨w.heap.size,0,none⟩) (by simp)).trans z1;have z2':=(hb1.cell (p:=⟨w.heap.size,1,none⟩) (by simp)).trans z2)
   | (go_at_call 167;refine (hR2.out _ (hB0.out.trans (hb1.mono (Nat.le_succ _)))).mono ?_;rintro e' w2 ⟨A',c',rfl,hs',hb2⟩))
  have hB1:=hB0.out.trans (hb1.mono (Nat.le_succ _));have hbw:Below w.heap.size w w2:=hB1.trans (hb2.mono hB1.size);have hle:=hs'.le;have hbig:=hs'.big;obtain ⟨i0,hi,hz0,hz1,hz2⟩:=info_parts dU;clear hT hR hR2 hB0 hB1 hb1 hb2 z1 z2 z1' z2';go_loopw [7,11] (fun v i wr=>∃k:Nat,k<=us.length/\i = .int .i64 k/\wr.ownsRow w2.heap.size 3 1 v k ((us.map (fun t=>Value.int .i64 t.reg)).take k)/\Below w2.heap.size w2 wr) (fun _ i _=>us.length - (intOf i).toNat)
  case atStart=>exact ⟨0,by omega,rfl,World.ownsRow_nil _ _ _ _,aX _ _⟩
  case round=>
   obtain ⟨k,hk,rfl,hown,hB⟩:=hrel;by_cases hlt:k<us.length
   ·obtain ⟨bT,oT,rfl,hbT,hrT⟩:=hs'.sl.at_ hlt;obtain ⟨r1,r2,r3,r4,A2,c2,r5,r6,r7,r8⟩:=RTy.keeps _ _ _ w2.heap.size _ _ _ (aY _) hbT hB hrT
    have htk:Hid ((us.map (fun t=>Value.int .i64 t.reg)).take (k+1)=(us.map (fun t=>Value.int .i64 t.reg)).take k ++ [.int .i64 us[k].reg]):=aF (by
     rw [bF (by simpa using hlt)]
     simp)
    generalize us[k]=tt at *;clear hrT r8;have hown2:=hown.alloc (.cells #[.int .i64 tt.reg] 3);have hsz:=hB.size;go_wp2_with (at_builtin;refine wpList_append_own _ rfl _ _ 34 rfl w2.heap.size 3 i0 (.int .i64 0) 1 8 Tryz.underlying34 hi hz0 hz1 hz2 rfl (by decide) _ _ _ rfl hown2 ⟨wr.heap.size,0,none⟩ 1 1 [.int .i64 tt.reg] rfl rfl ?c1 ?c2 ?c3 ?c4 ?c5 ?_)
    try (case c1=>
     intro j u hj;match j,hj with
     | 0,hj=>
       simp at hj;subst hj;rw [add0]
       go_simp)
    case c2=>first | rfl | (intro u hu;simp at hu;subst hu;rfl)
    case c3=>unfold maxLen;omega
    case c4=>omega
    case c5=>simp;omega
    intro v' w3 hown' hgrow _;have hown3:w3.ownsRow w2.heap.size 3 1 v' (k+1) ((us.map (fun t=>Value.int .i64 t.reg)).take (k+1)):=by rw [htk.out];exact hown'
    have hB2:Below w2.heap.size w2 w3:=(hB.alloc hsz _).grown hgrow (by simp;omega) (fun g hg=>(hown2.lt g hg).1);clear hown' hgrow hown hown2 hB r1 r2 r3 r4 r5;go_wp2
    go_roundw
    case rel=>exact ⟨k+1,by omega,by simp,hown3,hB2⟩
    case measure=>simp [intOf];omega
   ·have hlt2:¬((k:Int)<(us.length:Int)):=(by omega);have hke:k=us.length:=(by omega);subst hke
    have hown2:wr.ownsRow w2.heap.size 3 1 u7 (us.map (·.reg)).length ((us.map (·.reg)).map (Value.int .i64)):=by
     have h:=hown;rw [List.take_of_length_le (by simp)] at h;rwa [cF,List.map_map]
    obtain ⟨A2,c2,rfl,hsl⟩:=dB hown2;rw [cF] at *;have hsl2:=aF hsl;clear hown hown2 hsl;go_wp2
    go_ret;exact ⟨A2,c2,rfl,hsl2.out,hbw.trans (hB.mono hbw.size)⟩
 ·have hq2:(q != 0)=true:=by simp [hq]
  have hu:=hbad hq;subst hu;clear hq hR hbad;go_enter Tryz.func168,Tryz.ntmps168
  go_wp2_with (go_at_call 126;refine hT.out.mono ?_;rintro e' w1 ⟨rfl,hb1⟩)
  go_ret;exact ⟨none,0,rfl,⟨Sl.nil,by simp,by omega⟩,hB0.out.trans (hb1.mono (Nat.le_succ _))⟩
theorem tR (ts:List Ty) (ls:List Lc) (l:Int) (ps:List Pj):(refsOf ts ls l ps).2=decide ((tyOf ts ls l ps).2=0):=by
 rw [refsOf,pY];by_cases h:(tyOf ts ls l ps).2=0 <;> simp [h]
theorem nK (ts:List Ty) (ls:List Lc) (l:Int) (ps:List Pj) (A B C:Option Addr) (c d e:Nat) (w:World) (hts:Slc 5 RTy w A c ts) (hls:Slc 2 RLc w B d ls) (hps:Slc 2 RPj w C e ps) (hok:Okay ts ls):
 Calls Tryz.prog 127 #[.slice A ts.length c,.slice B ls.length d,.agg #[.int .i64 l,.slice C ps.length e]] w fun e' w'=>e' = .returned (.bool ((refsOf ts ls l ps).2 && !(refsOf ts ls l ps).1.any notMu))/\Below w.heap.size w w':=by
 rw [tR];have hT:=jQ ts ls l ps.length ps rfl A B C c d e (w.alloc (.cells #[.int .i64 l,.slice C ps.length e] 51)) (hts.keep RTy.keeps ((aX _ _).alloc (aY _) _)) (hls.keep RLc.keeps ((aX _ _).alloc (aY _) _)) (hps.keep RPj.keeps ((aX _ _).alloc (aY _) _)) hok;rw [bI] at hT;exact vR A B C ts.length c ls.length d ps.length e l _ _ _ w (aF hT) (aF (fun hq W hW=>nJ ts ls l ps A B C c d e W (hts.keep RTy.keeps hW) (hls.keep RLc.keeps hW) (hps.keep RPj.keeps hW) hok hq))
theorem nI (ts:List Ty) (ls:List Lc) (l:Int) (ps:List Pj) (A B C:Option Addr) (c d e:Nat) (w:World) (hts:Slc 5 RTy w A c ts) (hls:Slc 2 RLc w B d ls) (hps:Slc 2 RPj w C e ps) (hok:Okay ts ls):
 Calls Tryz.prog 168 #[.slice A ts.length c,.slice B ls.length d,.agg #[.int .i64 l,.slice C ps.length e]] w fun e' w'=>∃A' c',e' = .returned (.slice A' (refsOf ts ls l ps).1.length c')/\Slc 1 RInt w' A' c' ((refsOf ts ls l ps).1.map (·.reg))/\Below w.heap.size w w':=by
 have hT:=jQ ts ls l ps.length ps rfl A B C c d e (w.alloc (.cells #[.int .i64 l,.slice C ps.length e] 51)) (hts.keep RTy.keeps ((aX _ _).alloc (aY _) _)) (hls.keep RLc.keeps ((aX _ _).alloc (aY _) _)) (hps.keep RPj.keeps ((aX _ _).alloc (aY _) _)) hok;rw [bI] at hT;exact vQ A B C ts.length c ls.length d ps.length e l _ _ _ w (iZ _ _ _ _) (fun hq=>by rw [lE hq]) (aF hT) (aF (fun hq W hW=>nJ ts ls l ps A B C c d e W (hts.keep RTy.keeps hW) (hls.keep RLc.keeps hW) (hps.keep RPj.keeps hW) hok hq))
end
section
open Go Go.RowKit
theorem eP (m:Nat):((m:Int) == 0)=decide (m=0):=by
 rw [bQ];simp
theorem eW (p:Plc) (A:Option Addr) (c:Nat) (w:World):
 Calls Tryz.prog 111 #[.agg #[.int .i64 p.loc,.slice A p.proj.length c]] w fun e' w'=>e' = .returned (.bool (zeroP p))/\Below w.heap.size w w':=by
 obtain ⟨m,hm⟩:∃m,p.proj.length=m:=⟨_,rfl⟩;unfold zeroP;rw [hm];obtain ⟨q,hq⟩:∃q,(decide (p.loc=0) && decide (m=0))=q:=⟨_,rfl⟩;rw [hq];have HQ:=aF hq;clear hq hm;go_enter Tryz.func111,Tryz.ntmps111
 go_wp2_with fail
 all_goals
  go_ret;refine ⟨?_,aH⟩;rw [<- HQ.out]
  first
   | (simp_all;done)
   | (simp_all;exact eP m)
theorem dQ (p:Plc) (A:Option Addr) (c:Nat) (w:World):
 Calls Tryz.prog 95 #[.agg #[.int .i64 p.loc,.slice A p.proj.length c]] w fun e' w'=>e' = .returned (.bool (zeroP p))/\Below w.heap.size w w':=by
 obtain ⟨m,hm⟩:∃m,p.proj.length=m:=⟨_,rfl⟩;unfold zeroP;rw [hm];obtain ⟨q,hq⟩:∃q,(decide (p.loc=0) && decide (m=0))=q:=⟨_,rfl⟩;rw [hq];have HQ:=aF hq;clear hq hm;go_enter Tryz.func95,Tryz.ntmps95
 go_wp2_with fail
 all_goals
  go_ret;refine ⟨?_,aH⟩;rw [<- HQ.out]
  first
   | (simp_all;done)
   | (simp_all;exact eP m)
theorem eC (x:Bool) (w:World):Calls Tryz.prog 116 #[.bool x] w fun e' w'=>e' = .returned (.int .i64 (fail22 x))/\w'=w:=by
 cases x
 all_goals
  go_enter Tryz.func116,Tryz.ntmps116
  go_wp2_with fail
  go_ret;exact ⟨rfl,rfl⟩
def ckC (b:Bdy) (bh:BH) (r:Nat):List Value:=[.string b.name,.slice bh.A1 b.regions.length bh.c1,.slice bh.A2 b.outl.length bh.c2,.slice bh.A3 b.types.length bh.c3,.slice bh.A4 b.locals.length bh.c4,.int .i64 b.args,.slice bh.A5 b.blocks.length bh.c5,.pointer (some ⟨r,0,none⟩)]
theorem eO (b:Bdy) (bh:BH) (r:Nat) (p:Plc) (A:Option Addr) (c:Nat) (w:World) (H:BdAt w b bh) (hp:Slc 2 RPj w A c p.proj) (hok:Okay b.types b.locals):
 Calls Tryz.prog 119 #[.agg (ckC b bh r).toArray,.agg #[.int .i64 p.loc,.slice A p.proj.length c]] w fun e' w'=>e' = .returned (.tuple #[.int .i64 (tyB b p).1,.int .i64 (tyB b p).2])/\Below w.heap.size w w':=by
 have HT:=aF (fun W (hb:Below w.heap.size w W)=>sW b.types b.locals p.loc p.proj bh.A3 bh.A4 A bh.c3 bh.c4 c W (H.keep hb).typ (H.keep hb).loc (hp.keep RPj.keeps hb) hok);change Hid (∀W,Below w.heap.size w W->Calls Tryz.prog 155 _ W fun e' w'=>e' = .returned (.tuple #[.int .i64 (tyB b p).1,.int .i64 (tyB b p).2])/\Below W.heap.size W w') at HT;generalize tyB b p=q at HT ⊢;clear H hp hok;unfold ckC;go_enter Tryz.func119,Tryz.ntmps119
 go_wp2_with (go_at_call 155;refine (HT.out _ (bel2 _ _ _)).mono ?_;rintro e' w1 ⟨rfl,hb1⟩)
 go_ret2
 exact ⟨rfl,(bel2 _ _ _).trans (hb1.mono (bel2 _ _ _).size)⟩
theorem eF (b:Bdy) (bh:BH) (p:Plc) (A:Option Addr) (c:Nat) (w:World) (H:BdAt w b bh) (hp:Slc 2 RPj w A c p.proj) (hok:Okay b.types b.locals):
 Calls Tryz.prog 92 #[.agg (bdC b bh).toArray,.agg #[.int .i64 p.loc,.slice A p.proj.length c]] w fun e' w'=>e' = .returned (.tuple #[.int .i64 (tyB b p).1,.int .i64 (tyB b p).2])/\Below w.heap.size w w':=by
 have HT:=aF (fun W (hb:Below w.heap.size w W)=>jQ b.types b.locals p.loc _ p.proj rfl bh.A3 bh.A4 A bh.c3 bh.c4 c W (H.keep hb).typ (H.keep hb).loc (hp.keep RPj.keeps hb) hok);change Hid (∀W,Below w.heap.size w W->Calls Tryz.prog 126 _ W fun e' w'=>e' = .returned (.tuple #[.int .i64 (tyB b p).1,.int .i64 (tyB b p).2])/\Below W.heap.size W w') at HT;generalize tyB b p=q at HT ⊢;clear H hp hok;unfold bdC;go_enter Tryz.func92,Tryz.ntmps92
 go_wp2_with (go_at_call 126;refine (HT.out _ (bel2 _ _ _)).mono ?_;rintro e' w1 ⟨rfl,hb1⟩)
 go_ret2
 exact ⟨rfl,(bel2 _ _ _).trans (hb1.mono (bel2 _ _ _).size)⟩
theorem jT (b:Bdy) (bh:BH) (p:Plc) (A:Option Addr) (c:Nat) (w:World) (H:BdAt w b bh) (hp:Slc 2 RPj w A c p.proj) (hok:Okay b.types b.locals):
 Calls Tryz.prog 93 #[.agg (bdC b bh).toArray,.agg #[.int .i64 p.loc,.slice A p.proj.length c]] w fun e' w'=>e' = .returned (.bool (mutB b p))/\Below w.heap.size w w':=by
 have HT:=aF (fun W (hb:Below w.heap.size w W)=>nK b.types b.locals p.loc p.proj bh.A3 bh.A4 A bh.c3 bh.c4 c W (H.keep hb).typ (H.keep hb).loc (hp.keep RPj.keeps hb) hok);change Hid (∀W,Below w.heap.size w W->Calls Tryz.prog 127 _ W fun e' w'=>e' = .returned (.bool (mutB b p))/\Below W.heap.size W w') at HT;generalize mutB b p=q at HT ⊢;clear H hp hok;unfold bdC;go_enter Tryz.func93,Tryz.ntmps93
 go_wp2_with (go_at_call 127;refine (HT.out _ (bel2 _ _ _)).mono ?_;rintro e' w1 ⟨rfl,hb1⟩)
 go_ret;exact ⟨rfl,(bel2 _ _ _).trans (hb1.mono (bel2 _ _ _).size)⟩
def rvC (r:Rvl) (A:Option Addr) (c:Nat) (B:Option Addr) (d:Nat):List Value:=[.int .i64 r.kind,.int .i64 r.op,.int .i64 r.reg,.bool r.mu,.int .i64 r.place.loc,.slice A r.place.proj.length c,.slice B r.args.length d]
def tmC (t:Trm) (A:Option Addr) (c:Nat) (B:Option Addr) (d:Nat) (C:Option Addr) (e:Nat):List Value:=[.int .i64 t.kind,.slice A t.targets.length c,.slice B t.args.length d,.int .i64 t.place.loc,.slice C t.place.proj.length e,.string t.name]
def opC (o:Opd) (A:Option Addr) (c:Nat):List Value:=[.int .i64 o.kind,.int .i64 o.place.loc,.slice A o.place.proj.length c,.int .i64 o.n]
theorem cQ (w:World) (l:List Value) (t:TypeId):∀i v,l[i]?=some v->(w.alloc (.cells l.toArray t)).cell? ⟨w.heap.size,i,none⟩=some v:=fun i v hi=>by
 rw [World.cell?_alloc_at _ _ _ _ (by simp)];simpa using hi
theorem cP {W w1:World} {n:Nat} {l:List Value} (h:∀i v,l[i]?=some v->W.cell? ⟨n,i,none⟩=some v) (hb:Below W.heap.size W w1):∀i v,l[i]?=some v->w1.cell? ⟨n,i,none⟩=some v:=fun i v hi=>cO hb (h i v hi)
theorem kE (m k:Nat):((m:Int) == (k:Int))=decide (m=k):=by
 rw [bQ];simp;omega
theorem sR (r:Rvl) (A B:Option Addr) (c d:Nat) (w:World):
 Calls Tryz.prog 149 #[.agg (rvC r A c B d).toArray] w fun e' w'=>e' = .returned (.bool (unusedR r))/\Below w.heap.size w w':=by
 have HZ:=aF (fun W=>eW r.place A c W);obtain ⟨k,op,rg,mu,pl,args⟩:=r;simp only at HZ;unfold rvC;simp only;obtain ⟨m,hm⟩:∃m,args.length=m:=⟨_,rfl⟩;have HQ:Hid (unusedR ⟨k,op,rg,mu,pl,args⟩=(let plain:=decide (rg=0) && !mu && zeroP pl;if k=0 then plain && decide (op=0) && decide (m=1) else if k=1 then decide (op=0) && decide (m=0) else if k=2 then plain && decide (m=1) else if k=3 then plain && decide (m=2) else plain && decide (op=0))):=aF (by unfold unusedR;rw [<- hm]);rw [hm];generalize unusedR ⟨k,op,rg,mu,pl,args⟩=q at HQ ⊢;generalize zeroP pl=z at HZ HQ;clear hm;have n1:=aF (kE m 1);have n0:=aF (eP m);have n2:=aF (kE m 2);rcases (show k=0\/k=1\/k=2\/k=3\/(k≠0/\k≠1/\k≠2/\k≠3) by omega) with rfl | rfl | rfl | rfl | ⟨h0,h1,h2,h3⟩
 case inr.inr.inr.inr=>
  have e0:(k == 0)=false:=by simp [h0]
  have e1:(k == 1)=false:=by simp [h1]
  have e2:(k == 2)=false:=by simp [h2]
  have e3:(k == 3)=false:=by simp [h3]
  have HF:Hid (q=(decide (rg=0) && !mu && z && decide (op=0))):=aF (by rw [HQ.out];simp only;rw [aZ h0,aZ h1,aZ h2,aZ h3]);clear HQ h0 h1 h2 h3;go_enter Tryz.func149,Tryz.ntmps149
  go_wp2_with (go_at_call 111;refine (HZ.out _).mono ?_;rintro e' w1 ⟨rfl,hb1⟩;have y:=cP (cQ w _ _) hb1;obtain ⟨y0,y1,y2,y3,y4,y5,y6⟩:=aS y;clear y)
  all_goals
   go_ret;refine ⟨?_,by first | exact ((aX _ _).alloc (aY _) _).trans (hb1.mono (by simp)) | exact aH⟩;rw [HF.out];show Ending.returned (.bool _)=_;clear HF HZ;refine congrArg (fun b=>Ending.returned (Value.bool b)) ?_;try clear y0 y1 y2 y3 y4 y5 y6
   first | (clear e0 e1 e2 e3;have ho:(op == 0)=decide (op=0):=by (rw [bQ];simp);rw [ho];simp_all;done) | (clear e0 e1 e2 e3;grind)
 ·have HF:=aF HQ.out;clear HQ;go_enter Tryz.func149,Tryz.ntmps149
  go_wp2_with (go_at_call 111;refine (HZ.out _).mono ?_;rintro e' w1 ⟨rfl,hb1⟩;have y:=cP (cQ w _ _) hb1;obtain ⟨y0,y1,y2,y3,y4,y5,y6⟩:=aS y;clear y)
  all_goals
   go_ret;refine ⟨?_,by first | exact ((aX _ _).alloc (aY _) _).trans (hb1.mono (by simp)) | exact aH⟩;have m1:=n1.out;have m0:=n0.out;have m2:=n2.out;rw [HF.out];first | (simp_all;done) | (clear HZ;simp_all;done) | (cases mu <;> cases z <;> simp_all;done) | (clear HZ;grind)
 ·have HF:=aF HQ.out;clear HQ;go_enter Tryz.func149,Tryz.ntmps149
  go_wp2_with (go_at_call 111;refine (HZ.out _).mono ?_;rintro e' w1 ⟨rfl,hb1⟩;have y:=cP (cQ w _ _) hb1;obtain ⟨y0,y1,y2,y3,y4,y5,y6⟩:=aS y;clear y)
  all_goals
   go_ret;refine ⟨?_,by first | exact ((aX _ _).alloc (aY _) _).trans (hb1.mono (by simp)) | exact aH⟩;have m1:=n1.out;have m0:=n0.out;have m2:=n2.out;rw [HF.out];first | (simp_all;done) | (clear HZ;simp_all;done) | (cases mu <;> cases z <;> simp_all;done) | (clear HZ;grind)
 ·have HF:=aF HQ.out;clear HQ;go_enter Tryz.func149,Tryz.ntmps149
  go_wp2_with (go_at_call 111;refine (HZ.out _).mono ?_;rintro e' w1 ⟨rfl,hb1⟩;have y:=cP (cQ w _ _) hb1;obtain ⟨y0,y1,y2,y3,y4,y5,y6⟩:=aS y;clear y)
  all_goals
   go_ret;refine ⟨?_,by first | exact ((aX _ _).alloc (aY _) _).trans (hb1.mono (by simp)) | exact aH⟩;have m1:=n1.out;have m0:=n0.out;have m2:=n2.out;rw [HF.out];first | (simp_all;done) | (clear HZ;simp_all;done) | (cases mu <;> cases z <;> simp_all;done) | (clear HZ;grind)
 ·have HF:=aF HQ.out;clear HQ;go_enter Tryz.func149,Tryz.ntmps149
  go_wp2_with (go_at_call 111;refine (HZ.out _).mono ?_;rintro e' w1 ⟨rfl,hb1⟩;have y:=cP (cQ w _ _) hb1;obtain ⟨y0,y1,y2,y3,y4,y5,y6⟩:=aS y;clear y)
  all_goals
   go_ret;refine ⟨?_,by first | exact ((aX _ _).alloc (aY _) _).trans (hb1.mono (by simp)) | exact aH⟩;have m1:=n1.out;have m0:=n0.out;have m2:=n2.out;rw [HF.out];first | (simp_all;done) | (clear HZ;simp_all;done) | (cases mu <;> cases z <;> simp_all;done) | (clear HZ;grind)
end
section
open Go Go.RowKit Go.Maps
def CopE.F (E:CopE):Value:= .func (.func 192) #[] #[.pointer (some ⟨E.pl,0,none⟩),.pointer (some ⟨E.ps,0,none⟩),.pointer (some ⟨E.pc,0,none⟩)]
def CopE.Rec (E:CopE) (ts:List Ty) (m:Nat):Prop:=∀i:Nat,i<m->i<ts.length->∀W sl,E.St ts.length W sl E.F->
 Calls Tryz.prog 192 #[.int .i64 i,.pointer (some ⟨E.pl,0,none⟩),.pointer (some ⟨E.ps,0,none⟩),.pointer (some ⟨E.pc,0,none⟩)] W fun e' W'=>∃q,e' = .returned (.bool q)/\E.Q ts E.F sl i q W'
theorem xBA (E:CopE) (ts:List Ty) (m:Nat) (HR:E.Rec ts m) (k:Nat) (hk:k<m) (hkl:k<ts.length) (W:World) (sl:List Int) (h:E.St ts.length W sl E.F):
 Calls Tryz.prog 194 #[.int .i64 k,.pointer (some ⟨E.pc,0,none⟩)] W fun e' W'=>∃q,e' = .returned (.bool (!q))/\E.Q ts E.F sl k q W':=by
 have x:=h.c;have HC:=aF (HR k hk hkl W sl h);clear h HR;generalize E.Q ts E.F sl k=Q at HC ⊢;unfold CopE.F at x;go_enter Tryz.func194,Tryz.ntmps194
 go_wp2_with (go_at_call 192;refine HC.out.mono ?_;rintro e' w1 ⟨q,rfl,hq⟩)
 go_ret;exact ⟨q,rfl,hq⟩
def CopE.IQ (E:CopE) (ts:List Ty) (sl fl:List Int) (r:Int) (W':World):Prop:=
 (r = -1/\∃sl',NewT ts sl sl'/\(∀f∈fl,CovT ts sl' f)/\E.St ts.length W' sl' E.F)\/(0<=r/\(∃f∈fl,copB ts f=false)/\Below E.w0.heap.size E.w0 W')
theorem xAY (E:CopE) (ts:List Ty) (m:Nat) (HR:E.Rec ts m) (fl:List Int) (hfl:∀f∈fl,0<=f/\f<(m:Int)/\f<(ts.length:Int)) (B:Option Addr) (d:Nat) (hs:Slc 1 RInt E.w0 B d fl) (W:World) (sl:List Int) (h:E.St ts.length W sl E.F):
 Calls Tryz.prog 207 #[.slice B fl.length d,.func (.func 194) #[] #[.pointer (some ⟨E.pc,0,none⟩)]] W fun e' W'=>∃r:Int,e' = .returned (.int .i64 r)/\E.IQ ts sl fl r W':=by
 have hle:=hs.le;have hbig:=hs.big;have HS:=aF hs;have H0:=aF h;have HC:=aF (xBA E ts m HR);clear hs h HR;go_enter Tryz.func207,Tryz.ntmps207
 go_wp2_with fail
 go_loopw [8] (fun v wr=>∃(k:Nat) (sl':List Int),k<=fl.length/\v = .int .i64 k/\Hid (E.St ts.length wr sl' E.F)/\Hid (NewT ts sl sl')/\Hid (∀j (hj:j<fl.length),j<k->CovT ts sl' fl[j])) (fun v _=>fl.length - (intOf v).toNat)
 case atStart=>exact ⟨0,sl,by omega,rfl,H0,aF (NewT.refl _ _),aF (fun j _ h=>absurd h (by omega))⟩
 case round=>
  obtain ⟨k,sl',hk,rfl,HST,HN,HD⟩:=hrel;by_cases hlt:k<fl.length
  ·obtain ⟨bb,oo,rfl,hbb,hx⟩:=(HS.out.keep RInt.keeps HST.out.low).sl.at_ hlt;have hy:=hfl fl[k] (bM hlt);obtain ⟨y,hyy⟩:=bG hy.1;have HY:=aF hyy
   have x0:wr.cell? ⟨bb,oo+k,none⟩=some (.int .i64 y):=by
    rw [<- hyy];simpa [RInt] using hx
   have HCK:=aF (HC.out y (by omega) (by omega) wr sl' HST.out);have HMEM:=aF (bM hlt);clear hx hy hyy HC;go_wp2_with (go_at_call 194;refine HCK.out.mono ?_;rintro e' w1 ⟨q,rfl,hq⟩;have HQ:=aF hq;clear hq)
   ·have hqf:q=false:=by cases q <;> simp_all
    go_ret;refine ⟨_,rfl,Or.inr ⟨by omega,⟨_,HMEM.out,?_⟩,?_⟩⟩
    ·rcases HQ.out with ⟨h1,-⟩ | ⟨-,h2,-⟩
     ·rw [hqf] at h1;cases h1
     ·rw [HY.out];exact h2
    ·rcases HQ.out with ⟨h1,-⟩ | ⟨-,-,h3⟩
     ·rw [hqf] at h1;cases h1
     ·exact h3
   ·have hqt:q=true:=by cases q <;> simp_all
    rcases HQ.out with ⟨-,sl2,h1,h2,h3⟩ | ⟨h1,-⟩
    ·go_roundw
     case rel=>
      refine ⟨k+1,sl2,by omega,by go_num,aF h3,aF (HN.out.trans h1),aF (fun j hj hjk=>?_)⟩;rcases Nat.lt_or_ge j k with hjl | hjl
      ·exact (HD.out j hj hjl).mono h1.1
      ·obtain rfl:j=k:=by omega
       rw [HY.out];exact h2
     case measure=>simp [intOf];omega
    ·rw [hqt] at h1;cases h1
  ·clear HC;go_wp2_with fail
   go_ret
   exact ⟨-1,rfl,Or.inl ⟨rfl,sl',HN.out,fun f hf=>by
    obtain ⟨j,hj,rfl⟩:=List.mem_iff_getElem.1 hf
    exact HD.out j hj (by omega),HST.out⟩⟩
theorem xAZ (E:CopE) (ts:List Ty) (m:Nat) (HR:E.Rec ts m) (fl:List Int) (hfl:∀f∈fl,0<=f/\f<(m:Int)/\f<(ts.length:Int)) (B:Option Addr) (d:Nat) (hs:Slc 1 RInt E.w0 B d fl) (W:World) (sl:List Int) (h:E.St ts.length W sl E.F):
 Calls Tryz.prog 193 #[.slice B fl.length d,.func (.func 194) #[] #[.pointer (some ⟨E.pc,0,none⟩)]] W fun e' W'=>∃r:Int,e' = .returned (.bool (decide (0<=r)))/\E.IQ ts sl fl r W':=by
 have HC:=aF (xAY E ts m HR fl hfl B d hs W sl h);clear hs h HR hfl;generalize E.IQ ts sl fl=Q at HC ⊢;go_enter Tryz.func193,Tryz.ntmps193
 go_wp2_with (go_at_call 207;refine HC.out.mono ?_;rintro e' w1 ⟨r,rfl,hq⟩)
 go_ret;exact ⟨r,rfl,hq⟩
theorem mO (E:CopE) (ts:List Ty) (HE:E.Ok ts):∀m:Nat,E.Rec ts m
 | 0=>fun _ h=>absurd h (by omega)
 | m+1=>fun i him hi W sl h=>by
   by_cases him2:i<m
   ·exact mO E ts HE m i him2 hi W sl h
   obtain rfl:m=i:=by omega
   have HC:=aF (xAZ E ts m (mO E ts HE m));have HOK:=aF (HE.tyok m hi);have HCB:=aF (qK HE.tyok hi);have hn:=HE.n;have hlen:=h.len;have x1:=h.l;have x2:=h.s;have keyi:=key3 (a:=(m:Int)) (by omega) (by omega);have hown:=h.own;have HST:=aF h;have HEE:=aF HE;have hle:=HE.ty.le;have hbig:=HE.ty.big;obtain ⟨bb,oo,hA,hbb,hx⟩:=HE.ty.sl.at_ hi;have HX:=aF hx;have HLOW:=aF h.low;obtain ⟨t,ht⟩:∃t,ts[m]=t:=⟨_,rfl⟩;rw [ht] at HX HOK HCB;obtain ⟨r1,r2,r3,r4,A2,c2,r5,r6,r7,r8⟩:=HX.out;have y1:=cO HLOW.out r1;have y2:=cO HLOW.out r2;have y5:=cO HLOW.out r5;have R5:=aF r5;have HFL:Hid (Slc 1 RInt E.w0 A2 c2 t.flds):=aF ⟨r8,r6,r7⟩;have hbl:=bN hbb h.low.size;have HT:=aF ht;clear hx HX r8 r1 r2 r3 r4 r5 ht h HE him him2;rw [hA] at x1;by_cases h3:t.kind=3
   ·have e3:(t.kind == 3)=true:=by simp [h3]
    have HF:Hid (∀q:Bool,(!t.mu)=q->E.Q ts E.F sl (m:Int) q W):=aF (fun q hq=>by
     cases hmu:t.mu
     ·rw [hmu] at hq;subst hq;exact Or.inl ⟨rfl,sl,NewT.refl _ _,⟨by simpa using hi,by omega,Or.inl (by simp only [bV];rw [HT.out];exact ⟨h3,hmu⟩)⟩,HST.out⟩
     ·rw [hmu] at hq;subst hq
      exact Or.inr ⟨rfl,by rw [HCB.out,bA h3,hmu];rfl,HLOW.out⟩)
    clear hown HC HCB HOK;go_enter Tryz.func192,Tryz.ntmps192
    go_wp2_with fail
    go_ret;exact ⟨_,rfl,HF.out _ rfl⟩
   ·have e3:(t.kind == 3)=false:=by simp [h3]
    by_cases hm:(m:Int)∈sl
    ·have HFB:Hid (i64F (inF sl) (.int .i64 (m:Int))=true):=aF (by simp [i64F,inF,hm]);have HF:Hid (E.Q ts E.F sl (m:Int) true W):=aF (Or.inl ⟨rfl,sl,NewT.refl _ _,⟨by simpa using hi,by omega,Or.inr (by simp only [bV];rw [HT.out];exact ⟨h3,hm⟩)⟩,HST.out⟩);clear HC HCB HOK hm;go_enter Tryz.func192,Tryz.ntmps192
     go_wp2_with (at_lookup;refine dD _ rfl _ _ 74 rfl 3 4 law3 Tryz.underlying74 Tryz.underlying4 (gC _) _ _ _ rfl hown _ _ rfl keyi ?_;rw [HFB.out])
     go_ret;exact ⟨_,rfl,HF.out⟩
    ·have HFB:Hid (i64F (inF sl) (.int .i64 (m:Int))=false):=aF (by simp [i64F,inF,hm]);have HM:=aF hm;have HH3:=aF h3;clear hm h3;go_enter Tryz.func192,Tryz.ntmps192
     go_wp2_with (first
      | (at_lookup;refine dD _ rfl _ _ 74 rfl 3 4 law3 Tryz.underlying74 Tryz.underlying4 (gC _) _ _ _ rfl hown _ _ rfl keyi ?_;rw [HFB.out])
      | (at_mapUpdate;refine eK _ rfl _ _ _ 74 rfl 3 4 law3 Tryz.underlying74 Tryz.underlying4 _ _ _ rfl hown (by unfold maxLen;omega) _ _ _ rfl rfl keyi trivial _ (iA sl (m:Int)) (jC sl (m:Int)) ?_;intro w3 hown3 hg3;have HS3:=aF (HST.out.put HEE.out HM.out ⟨by omega,by omega⟩ hown3 hg3);have z1:=HS3.out.l;have z5:=cO HS3.out.low R5.out;rw [hA] at z1;clear hown3 hg3)
      | (go_at_call 193;refine (HC.out t.flds (fun f hf=>by have:=HOK.out.2 f hf;omega) A2 c2 HFL.out _ _ HS3.out).mono ?_;rintro e' w4 ⟨r,rfl,hq⟩;have HQ:=aF hq;clear hq))
     go_ret;refine ⟨_,rfl,?_⟩;rcases HQ.out with ⟨rfl,sl2,h1,h2,h4⟩ | ⟨h1,⟨f,hf,hcf⟩,h4⟩
     ·refine Or.inl ⟨rfl,sl2,h1.mark hi (by rw [HT.out];exact h2),⟨by simpa using hi,by omega,Or.inr ?_⟩,h4⟩;simp only [bV];rw [HT.out];exact ⟨HH3.out,h1.1 _ (by simp)⟩
     ·refine Or.inr ⟨by simp [h1],?_,h4⟩;rw [HCB.out,aZ HH3.out,Bool.eq_false_iff,ne_eq,List.all_eq_true];intro h0;have:=h0 f hf;rw [hcf] at this;cases this
theorem xFF (w:World) (n:Nat) (A:Option Addr) (c:Nat) (F:Value) (t1 t2 t3:TypeId):
 CopE.St ⟨w,A,c,w.heap.size,w.heap.size+2,w.heap.size+3,w.heap.size+1⟩ n ((((w.alloc (.cells #[.slice A n c] t1)).alloc (.map #[] 0)).alloc (.cells #[.map (some (w.heap.size+1))] t2)).alloc (.cells #[F] t3)) [] F:=by
 refine ⟨aH,?_,?_,?_,?_,by simp,by simp⟩
 ·exact cO ((((aX _ _).alloc (aY _) _).alloc (by simp) _).alloc (by simp) _) (cQ w [.slice A n c] t1 0 _ rfl)
 ·have:=cQ ((w.alloc (.cells #[.slice A n c] t1)).alloc (.map #[] 0)) [.map (some (w.heap.size+1))] t2 0 _ rfl;simp only [bI] at this;exact cO ((aX _ _).alloc (aY _) _) this
 ·have:=cQ (((w.alloc (.cells #[.slice A n c] t1)).alloc (.map #[] 0)).alloc (.cells #[.map (some (w.heap.size+1))] t2)) [F] t3 0 _ rfl;simp only [bI] at this;exact this
 ·have:=OwnB.made (w.alloc (.cells #[.slice A n c] t1)) Tryz.prog 3 4;rw [<- mK,bI] at this;exact (this.alloc _).alloc _
theorem xDW (ts:List Ty) (hok:TyOk ts) (hn:ts.length<=65535) (i:Int) (A:Option Addr) (c:Nat) (w:World) (hs:Slc 5 RTy w A c ts):
 Calls Tryz.prog 153 #[.slice A ts.length c,.int .i64 i] w fun e' w'=>e' = .returned (.bool (copB ts i))/\Below w.heap.size w w':=by
 have hle:=hs.le;have hbig:=hs.big;by_cases hr:0<=i/\i<(ts.length:Int)
 case neg=>
  rw [sH (by omega)];clear hs;go_enter Tryz.func153,Tryz.ntmps153
  go_wp2_with fail
  all_goals first
   | (exfalso;omega)
   | (go_ret;exact ⟨rfl,aH⟩)
 case pos=>
 obtain ⟨k,rfl⟩:=bG hr.1;have hlt:k<ts.length:=by omega
 have HE:CopE.Ok ⟨w,A,c,w.heap.size,w.heap.size+2,w.heap.size+3,w.heap.size+1⟩ ts:=⟨hs,hok,hn,Nat.le_succ _,by simp,by simp,by simp⟩;have HC:=aF (fun W h=>mO _ ts HE (k+1) k (by omega) hlt W [] h);have HCB:Hid ((∀sl,NewT ts [] sl->∀i:Int,CovT ts sl k->copB ts k=true)/\(copB ts k=false->copB ts k=false)):=aF ⟨fun sl h i hc=>xAH hok (sl:=sl) h hc,id⟩;have hmm:= @run_makeMap Tryz.prog;have hst:∀(a:Addr) (fn:Fn) (f c:Array Value) (W:World),(store a (.func fn f c)).run Tryz.prog W=stored Tryz.prog W a (.func fn f c) .plain:=fun a fn f c W=>run_store Tryz.prog W a (.func fn f c) _ rfl
 clear hs HE;go_enter Tryz.func153,Tryz.ntmps153
 go_wp2_with (go_at_call 192;refine (HC.out _ (xFF w ts.length A c _ _ _ _)).mono ?_;rintro e' w1 ⟨q,rfl,hq⟩;have HQ:=aF hq;clear hq)
 all_goals first
  | (exfalso;omega)
  | (go_ret
     rcases HQ.out with ⟨rfl,sl,h1,h2,h3⟩ | ⟨rfl,h1,h2⟩
     ·exact ⟨by rw [HCB.out.1 sl h1 0 h2];rfl,h3.low⟩
     ·exact ⟨by rw [HCB.out.2 h1];rfl,h2⟩)
end
section
open Go Go.RowKit
theorem xL (d:List Int):∀(l:List Int) (a k:Int),depF d a l=some k->∀i∈l,0<=i/\i<d.length
 | [],_,_,_=>by simp
 | i :: r,a,k,h=>by
   rw [depF] at h;by_cases hi:i<0
   ·rw [bA hi] at h;cases h
   rw [aZ hi] at h;cases hx:d[i.toNat]? with
   | none=>rw [hx] at h;cases h
   | some x=>
     rw [hx] at h;have hlt:i.toNat<d.length:=(List.getElem?_eq_some_iff.1 hx).1;intro j hj;rcases List.mem_cons.1 hj with rfl | hj
     ·exact ⟨by omega,by omega⟩
     ·exact xL d r _ k h j hj
def GoodT (m:Nat) (t:Ty):Prop:=(t.kind=3->0<=t.elem/\t.elem<m/\t.flds=[])/\(∀f∈t.flds,0<=f/\f<m)/\0<=t.kind/\t.kind<=4/\(t.kind=4->t.flds.length<=65535)/\(t.kind≠4->t.flds=[])
theorem yN {prev:List Ty} {d:List Int} {n:Int} {t:Ty} (h:(tyE prev d n t).1=0):GoodT d.length t:=by
 unfold tyE at h;by_cases c1:t.kind<0\/4<t.kind
 ·rw [bA c1] at h;cases h
 rw [aZ c1] at h;by_cases c2:(t.kind≠3/\(t.mu=true\/t.reg≠0\/t.elem≠0))\/(t.kind≠4/\0<t.flds.length)
 ·rw [bA c2] at h;cases h
 rw [aZ c2] at h;by_cases c3:t.kind=3/\(t.reg<0\/n<=t.reg)
 ·rw [bA c3] at h;cases h
 rw [aZ c3] at h
 have hfl:t.kind≠4->t.flds=[]:=fun h4=>by
  have:¬0<t.flds.length:=fun h5=>c2 (Or.inr ⟨h4,h5⟩)
  exact List.length_eq_zero_iff.1 (by omega)
 cases hd:depF d 0 (if t.kind=3 then [t.elem] else t.flds) with
 | none=>rw [hd] at h;cases h
 | some k=>
   rw [hd] at h;simp only at h;have hin:=xL d _ _ _ hd;by_cases c4:t.kind=4/\(t.flds.length=0\/65535<t.flds.length)
   ·rw [bA c4] at h;cases h
   refine ⟨fun h3=>?_,fun f hf=>?_,by omega,by omega,fun h4=>by have:¬(t.flds.length=0\/65535<t.flds.length):=fun h=>c4 ⟨h4,h⟩;omega,hfl⟩
   ·rw [bA h3] at hin;have:=hin t.elem (by simp);exact ⟨this.1,this.2,hfl (by omega)⟩
   ·by_cases h3:t.kind=3
    ·rw [hfl (by omega)] at hf;cases hf
    ·rw [aZ h3] at hin;exact hin f hf
theorem jK (n:Int):∀(l prev:List Ty) (d:List Int),d.length=prev.length->typesE n prev d l=0->∀i (h:i<l.length),GoodT (prev.length+i) l[i]
 | [],_,_,_,_=>fun i h=>absurd h (by simp)
 | t :: r,prev,d,hd,h=>by
   rw [typesE] at h;by_cases h0:(tyE prev d n t).1=0
   ·rw [bA h0] at h;intro i hi;cases i with
    | zero=>rw [<- hd];exact yN h0
    | succ i=>
      have:=jK n r (prev ++ [t]) (d ++ [(tyE prev d n t).2]) (by simp [hd]) h i (by simpa using hi);rw [bB,cG] at this;rw [show prev.length+(i+1)=prev.length+1+i by omega];simpa using this
   ·rw [aZ h0] at h;exact absurd h h0
theorem gU {n:Int} {l:List Ty} (h:typesC n l=0):l.length<=65535/\∀i (h:i<l.length),GoodT i l[i]:=by
 unfold typesC at h;by_cases h0:65535<l.length
 ·rw [bA h0] at h;cases h
 rw [aZ h0] at h;refine ⟨by omega,fun i hi=>?_⟩;have:=jK n l [] [] rfl h i hi;simpa using this
theorem uS {n:Int} {l:List Ty} (h:typesC n l=0):TyOk l:=fun i hi=>⟨((gU h).2 i hi).1,((gU h).2 i hi).2.1⟩
theorem kH {nt:Nat}:∀(l:List Lc) (seen:List ByteArray),localsE nt seen l=0->∀x∈l,isIdent x.name=true/\0<=x.type/\x.type<nt
 | [],_,_=>by simp
 | x :: r,seen,h=>by
   rw [localsE] at h;by_cases h1:isIdent x.name=false
   ·rw [bA h1] at h;cases h
   rw [aZ h1] at h;by_cases h2:memN x.name seen=true
   ·rw [bA h2] at h;cases h
   rw [aZ h2] at h;by_cases h3:x.type<0\/(nt:Int)<=x.type
   ·rw [bA h3] at h;cases h
   rw [aZ h3] at h;intro y hy;rcases List.mem_cons.1 hy with rfl | hy
   ·exact ⟨by simpa using h1,by omega,by omega⟩
   ·exact kH r _ h y hy
structure DeclOk (b:Bdy):Prop where
 name:isIdent b.name=true
 regs:namesC b.regions=0
 nreg:b.regions.length<=65535
 outl:pairsC b.regions.length b.outl=0
 nout:b.outl.length<=65535
 pairs:∀p∈b.outl,0<=p.1/\p.1<(b.regions.length:Int)/\0<=p.2/\p.2<(b.regions.length:Int)
 typC:typesC b.regions.length b.types=0
 ntyp:b.types.length<=65535
 good:∀i (h:i<b.types.length),GoodT i b.types[i]
 tyok:TyOk b.types
 nloc:b.locals.length<=65535
 locs:∀x∈b.locals,isIdent x.name=true/\0<=x.type/\x.type<b.types.length
 locE:localsE b.types.length [] b.locals=0
 args:0<=b.args/\b.args<=b.locals.length
 nblk:0<b.blocks.length/\b.blocks.length<=65535
 okay:Okay b.types b.locals
theorem kK:∀{l:List Int},firstE l=0->∀x∈l,x=0
 | [],_=>by simp
 | e :: r,h=>by
   rw [firstE] at h;by_cases he:e=0
   ·rw [bA he] at h;intro x hx;rcases List.mem_cons.1 hx with rfl | hx
    ·exact he
    ·exact kK h x hx
   ·rw [aZ he] at h;exact absurd h he
theorem eN {b:Bdy} (h:declC b=0):DeclOk b:=by
 unfold declC at h;by_cases h1:isIdent b.name=false
 ·rw [bA h1] at h;cases h
 rw [aZ h1] at h;by_cases h2:firstE [namesC b.regions,pairsC b.regions.length b.outl,typesC b.regions.length b.types,localsC b]=0
 ·rw [bA h2] at h;have g:=kK h2;have gn:=g (namesC b.regions) (by simp);have gp:=g (pairsC b.regions.length b.outl) (by simp);have gt:=g (typesC b.regions.length b.types) (by simp);have gl:=g (localsC b) (by simp)
  have hr:b.regions.length<=65535:=by
   unfold namesC at gn;by_cases c:65535<b.regions.length
   ·rw [bA c] at gn;cases gn
   ·omega
  have hp:=lJ gp;have ht:=gU gt;unfold localsC at gl;by_cases c:65535<b.locals.length
  ·rw [bA c] at gl;cases gl
  rw [aZ c] at gl;by_cases c2:localsE b.types.length [] b.locals=0
  ·rw [bA c2] at gl;by_cases c3:b.args<0\/(b.locals.length:Int)<b.args
   ·rw [bA c3] at gl;cases gl
   by_cases c4:b.blocks.length=0\/65535<b.blocks.length
   ·rw [bA c4] at h;cases h
   have hl:=kH _ _ c2;refine ⟨by simpa using h1,gn,hr,gp,hp.1,hp.2,gt,ht.1,ht.2,uS gt,by omega,hl,c2,by omega,by omega,?_,?_,?_⟩
   ·intro t htm h3;obtain ⟨i,hi,rfl⟩:=List.mem_iff_getElem.1 htm;obtain ⟨g1,g2,-⟩:=(ht.2 i hi).1 h3;exact ⟨g1,by omega⟩
   ·intro t htm f hf;obtain ⟨i,hi,rfl⟩:=List.mem_iff_getElem.1 htm;obtain ⟨g1,g2⟩:=(ht.2 i hi).2.1 f hf;exact ⟨g1,by omega⟩
   ·exact fun x hx=>⟨(hl x hx).2.1,(hl x hx).2.2⟩
  ·rw [aZ c2] at gl;exact absurd gl c2
 ·rw [aZ h2] at h;exact absurd h h2
end
section
open Go.RowKit Go.Maps Go.WideMaps
def pairL (s t:Int):Lit:= .string (keyBytes [.int .i64 s,.int .i64 t])
theorem nQ {s t s' t':Int} (h1:(Lit.int .i64 s).wf=true) (h2:(Lit.int .i64 t).wf=true) (h3:(Lit.int .i64 s').wf=true) (h4:(Lit.int .i64 t').wf=true) (h:pairL s t=pairL s' t'):s=s'/\t=t':=by
 unfold pairL at h;injection h with h
 have:=keyBytes_inj (l:=[.int .i64 s,.int .i64 t]) (l':=[.int .i64 s',.int .i64 t']) (by simp [Alike,Lit.sameKind]) (by simp [Lit.keyWf,h1,h2]) (by simp [Lit.keyWf,h3,h4]) h;simp at this;exact this
def Memo (P:Program) (k:TypeId) (w:World) (b:Nat) (S:Int->Int->Bool) (ks:List (Int × Int)):Prop:=
 ∃D:DataW Value,w.ownsMap P k (fun v=>some (.held v,[])) b ks.length D/\
  (∀s t,(Lit.int .i64 s).wf=true->(Lit.int .i64 t).wf=true->(s,t)∈ks->∀z,D.atKey (pairL s t) z = .held (.bool (S s t)))/\
  (∀s t,(Lit.int .i64 s).wf=true->(Lit.int .i64 t).wf=true->(s,t)∉ks->∀z,D.atKey (pairL s t) z=z)/\
  (∀p∈ks,(Lit.int .i64 p.1).wf=true/\(Lit.int .i64 p.2).wf=true)
section
variable {P:Program} {k:TypeId} {w:World} {b:Nat} {S:Int->Int->Bool} {ks:List (Int × Int)}
theorem Memo.made (w:World) (P:Program) (k:TypeId) (S:Int->Int->Bool):Memo P k (w.alloc (.map #[] 0)) w.heap.size S []:=
 ⟨.map [],World.ownsMap_made w P k _,fun _ _ _ _ h=>absurd h (by simp),fun _ _ _ _ _ _=>rfl,by simp⟩
theorem Memo.lt (h:Memo P k w b S ks):b<w.heap.size:=by
 obtain ⟨D,h1,_⟩:=h;exact h1.lt
theorem Memo.block {w':World} (h:Memo P k w b S ks) (hb:w'.heap[b]?=w.heap[b]?):Memo P k w' b S ks:=by
 obtain ⟨D,⟨es,clock,h1,h3,h4,h5⟩,h2⟩:=h;exact ⟨D,⟨es,clock,hb.trans h1,h3,h4,h5⟩,h2⟩
theorem Memo.below {w':World} (h:Memo P k w b S ks) (hb:Below w.heap.size w w'):Memo P k w' b S ks:=h.block (hb.block b h.lt)
theorem Memo.alloc (h:Memo P k w b S ks) (o:Obj):Memo P k (w.alloc o) b S ks:=h.below ((aX _ _).alloc (aY _) _)
theorem Memo.drew (h:Memo P k w b S ks):Memo P k w.drew b S ks:=h
theorem Memo.look {t e:TypeId} (h:Memo P k w b S ks) (A:ArrKey P k e 2) (he:P.underlying e=some (.int .i64)) (hsz:∃m,P.types.size=m+1) {te:TypeId} (ht:P.underlying t=some (.map k te)) (hz:(zeroValue te).run P w = .ok (.bool false) w)
 {x y:Int} (hx:(Lit.int .i64 x).wf=true) (hy:(Lit.int .i64 y).wf=true):
 (Instr.lookup t (.map (some b)) (.agg #[.int .i64 x,.int .i64 y]) true).run P w = .ok (.tuple #[.bool (if (x,y)∈ks then S x y else false),.bool (decide ((x,y)∈ks))]) w:=by
 obtain ⟨D,h1,h2,h3,h4⟩:=h;obtain ⟨v,ps,hrun,hv⟩:=h1.look_ok (Keyed.of_law A.law) ht hz rfl (keyOf_pair A he hsz hx hy);change _=some (D.atKey (pairL x y) _,ps) at hv;rw [hrun];change Result.ok (Value.tuple #[v,.bool (has D (pairL x y))]) w=_;by_cases hm:(x,y)∈ks
 ·rw [h2 x y hx hy hm] at hv;injection hv with hv
  injection hv with hv
  injection hv with hv
  rw [hv,has_true_of_atKey (h2 x y hx hy hm),bA hm];simp [hm]
 ·rw [h3 x y hx hy hm] at hv;injection hv with hv
  injection hv with hv
  injection hv with hv
  rw [hv,has_false_of_atKey (h3 x y hx hy hm),aZ hm];simp [hm]
theorem Memo.store {t e:TypeId} (h:Memo P k w b S ks) (A:ArrKey P k e 2) (he:P.underlying e=some (.int .i64)) (hsz:∃m,P.types.size=m+1) {te:TypeId} (ht:P.underlying t=some (.map k te)) (hn:ks.length<maxLen)
 {x y:Int} (hx:(Lit.int .i64 x).wf=true) (hy:(Lit.int .i64 y).wf=true):
 ∃w',(Instr.mapUpdate t (.map (some b)) (.agg #[.int .i64 x,.int .i64 y]) (.bool (S x y))).run P w = .ok () w'/\Memo P k w' b S ((x,y) :: ks)/\w.grownBy w' (some b):=by
 obtain ⟨D,h1,h2,h3,h4⟩:=h;obtain ⟨w',hrun,g1,g2⟩:=h1.update (Keyed.of_law A.law) ht hn (keyOf_pair A he hsz hx hy) (d:= .held (.bool (S x y))) rfl;have hkl:WideAt.IsKeyLit (pairL x y):=trivial;refine ⟨w',hrun,⟨_,g1,?_,?_,?_⟩,g2⟩
 ·intro s t hs ht hm z;by_cases hp:pairL s t=pairL x y
  ·obtain ⟨rfl,rfl⟩:=nQ hs ht hx hy hp;exact atKey_put_same h1.isMap hkl _ _
  ·have hne:¬(s=x/\t=y):=fun e=>hp (by rw [e.1,e.2])
   refine (atKey_put_other hp _ _).trans (h2 s t hs ht ?_ z);rcases List.mem_cons.1 hm with e | hm
   ·injection e with e1 e2
    exact absurd ⟨e1,e2⟩ hne
   ·exact hm
 ·intro s t hs ht hm z;have hp:pairL s t≠pairL x y:=fun e=>hm (by obtain ⟨rfl,rfl⟩:=nQ hs ht hx hy e;simp)
  exact (atKey_put_other hp _ _).trans (h3 s t hs ht (fun h=>hm (List.mem_cons_of_mem _ h)) z)
 ·intro p hp;rcases List.mem_cons.1 hp with rfl | hp
  ·exact ⟨hx,hy⟩
  ·exact h4 p hp
end
theorem fI {P:Program} (w:World) {ops:Array Oper} {rest:List Oper} {o:Oper} {a:Act} {Q:Exit->Act->World->Prop}
 (hg:o.guard=none) (m x:Operand) (t:TypeId) (hop:o.op=Op.lookup t m x true)
 (k e te:TypeId) (A:ArrKey P k e 2) (he:P.underlying e=some (.int .i64)) (hsz:∃m,P.types.size=m+1) (ht:P.underlying t=some (.map k te)) (hz:(zeroValue te).run P w = .ok (.bool false) w) (b:Nat) (S:Int->Int->Bool) (ks:List (Int × Int))
 (hm:a.eval m = .map (some b)) (hown:Memo P k w b S ks) (s u:Int) (hx:a.eval x = .agg #[.int .i64 s,.int .i64 u]) (h1:(Lit.int .i64 s).wf=true) (h2:(Lit.int .i64 u).wf=true)
 (hK:wpList P ops Q rest (a.put o.dst (.tuple #[.bool (if (s,u)∈ks then S s u else false),.bool (decide ((s,u)∈ks))])) w):
 wpList P ops Q (o :: rest) a w:=by
 refine wpList_plain hg fun K' hK'=>?_
 unfold Oper.wp;simp [execOp,hop,hm,hx,hown.look A he hsz ht hz h1 h2,Result.andThen];simp at hK;exact hK' _ _ hK
theorem dF {P:Program} (w:World) {ops:Array Oper} {rest:List Oper} {o:Oper} {a:Act} {Q:Exit->Act->World->Prop}
 (hg:o.guard=none) (m x v:Operand) (t:TypeId) (hop:o.op=Op.mapUpdate t m x v)
 (k e te:TypeId) (A:ArrKey P k e 2) (he:P.underlying e=some (.int .i64)) (hsz:∃m,P.types.size=m+1) (ht:P.underlying t=some (.map k te)) (b:Nat) (S:Int->Int->Bool) (ks:List (Int × Int))
 (hm:a.eval m = .map (some b)) (hown:Memo P k w b S ks) (hn:ks.length<maxLen) (s u:Int) (hx:a.eval x = .agg #[.int .i64 s,.int .i64 u]) (h1:(Lit.int .i64 s).wf=true) (h2:(Lit.int .i64 u).wf=true) (hv:a.eval v = .bool (S s u))
 (hK:∀w',Memo P k w' b S ((s,u) :: ks)->w.grownBy w' (some b)->wpList P ops Q rest (a.put o.dst undef) w'):
 wpList P ops Q (o :: rest) a w:=by
 refine wpList_plain hg fun K' hK'=>?_
 obtain ⟨w',hrun,r1,r2⟩:=hown.store A he hsz ht hn h1 h2;unfold Oper.wp;simp [execOp,hop,hm,hx,hv,hrun,Result.andThen];exact hK' _ _ (hK w' r1 r2)
theorem nP (n:Nat) (nodupL:∀(n:Nat) (l:List Int),l.Nodup->(∀x∈l,0<=x/\x<n)->l.length<=n) (ks:List (Int × Int)) (h:ks.Nodup) (hr:∀p∈ks,0<=p.1/\p.1<(n:Int)/\0<=p.2/\p.2<(n:Int)):ks.length<=n * n:=by
 have h1:(ks.map (fun p=>p.1 * (n:Int)+p.2)).Nodup:=by
  unfold List.Nodup;rw [List.pairwise_map];refine List.Pairwise.imp_of_mem ?_ h;intro a b ha hb hne heq;obtain ⟨a1,a2,a3,a4⟩:=hr a ha;obtain ⟨b1,b2,b3,b4⟩:=hr b hb
  have e2:a.2=b.2:=by
   have:=congrArg (· % (n:Int)) heq;simp only [Int.mul_add_emod_self_right] at this;rwa [Int.emod_eq_of_lt a3 a4,Int.emod_eq_of_lt b3 b4] at this
  have e1:a.1=b.1:=by
   have hn:(n:Int)≠0:=by omega
   have:a.1 * (n:Int)=b.1 * (n:Int):=by rw [e2] at heq;omega
   exact Int.eq_of_mul_eq_mul_right hn this
  exact hne (by cases a;cases b;simp_all)
 have:=nodupL (n * n) _ h1 (fun x hx=>by
  obtain ⟨p,hp,rfl⟩:=List.mem_map.1 hx;obtain ⟨a1,a2,a3,a4⟩:=hr p hp;have g1:0<=p.1 * (n:Int):=Int.mul_nonneg a1 (by omega);have g2:p.1 * (n:Int)<=((n:Int) - 1) * (n:Int):=Int.mul_le_mul_of_nonneg_right (by omega) (by omega);have g3:((n:Int) - 1) * (n:Int)=(n:Int) * n - n:=by rw [Int.sub_mul,Int.one_mul]
  refine ⟨by omega,?_⟩;push_cast
  omega)
 rwa [cF] at this
end
section
open Go Go.RowKit
theorem wT (ts:List Ty) (A:Option Addr) (c:Nat) (w:World) (hs:Slc 5 RTy w A c ts):
 Calls Tryz.prog 69 #[.slice A ts.length c] w fun e' w'=>(∃q,e' = .returned (.int .i64 q)/\(q<=0->ts.length<=200))/\Below w.heap.size w w':=by
 have hle:=hs.le;have hbig:=hs.big;go_enter Tryz.func69,Tryz.ntmps69
 go_wp2
 go_loopw [3,8] (fun n v wr=>∃k m:Nat,k<=ts.length/\k<=m/\m<=200/\n = .int .i64 m/\v = .int .i64 k/\Below w.heap.size w wr) (fun _ v _=>ts.length - (intOf v).toNat)
 case atStart=>exact ⟨0,0,by omega,by omega,by omega,rfl,rfl,aX _ _⟩
 case round=>
  obtain ⟨k,m,hk,hkm,hm,rfl,rfl,hB⟩:=hrel;by_cases hlt:k<ts.length
  ·obtain ⟨b1,o1,rfl,hb1,r1⟩:=hs.sl.at_ hlt;obtain ⟨r1,r2,r3,r4,A2,c2,r5,r6,r7,r8⟩:=RTy.keeps _ _ _ w.heap.size _ _ _ (aY _) hb1 hB r1;generalize ts[k]=x at *;clear r8 hs;have hBs:=hB.size;go_wp2
   all_goals first
    | (go_ret
       exact ⟨⟨1,rfl,by omega⟩,aH⟩)
    | (go_roundw
       case rel=>
        refine ⟨k+1,m+(1+if 500<x.flds.length then 500 else x.flds.length),by omega,by omega,?_,?_,by go_num,aH⟩
        ·grind
        ·congr 1;grind
       case measure=>simp [intOf];omega)
  ·go_wp2
   go_ret;exact ⟨⟨0,rfl,fun _=>by omega⟩,hB⟩
end
end Go.Proofs.YtcfchohkmkilpaaGreatDoor
