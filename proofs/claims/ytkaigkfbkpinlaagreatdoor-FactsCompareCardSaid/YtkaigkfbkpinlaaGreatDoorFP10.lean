/-
  Parts of the proof: V30 V28 V31 V32 V32R V32T.
-/
import Derived.Test.YtkaigkfbkpinlaaGreatDoorFP0
import Derived.Test.YtkaigkfbkpinlaaGreatDoorFP8
import Derived.Test.YtkaigkfbkpinlaaGreatDoorFP5
import Derived.Test.YtkaigkfbkpinlaaGreatDoorFP4
import Derived.Test.YtkaigkfbkpinlaaGreatDoorFP9
import Derived.Test.YtkaigkfbkpinlaaGreatDoorFP6
namespace Go.Proofs.YtkaigkfbkpinlaaGreatDoor
set_option maxRecDepth 100000
set_option maxHeartbeats 16000000
section
open Go Go.RowKit Go.Maps
def CopE.F (E:CopE):Value:= .func (.func 185) #[] #[.pointer (some ⟨E.pl,0,none⟩),.pointer (some ⟨E.ps,0,none⟩),.pointer (some ⟨E.pc,0,none⟩)]
def CopE.Rec (E:CopE) (ts:List Ty) (m:Nat):Prop:=∀i:Nat,i<m->i<ts.length->∀W sl,E.St ts.length W sl E.F->
 Calls Tryz.prog 185 #[.int .i64 i,.pointer (some ⟨E.pl,0,none⟩),.pointer (some ⟨E.ps,0,none⟩),.pointer (some ⟨E.pc,0,none⟩)] W fun e' W'=>∃q,e' = .returned (.bool q)/\E.Q ts E.F sl i q W'
theorem xAR (E:CopE) (ts:List Ty) (m:Nat) (HR:E.Rec ts m) (k:Nat) (hk:k<m) (hkl:k<ts.length) (W:World) (sl:List Int) (h:E.St ts.length W sl E.F):
 Calls Tryz.prog 187 #[.int .i64 k,.pointer (some ⟨E.pc,0,none⟩)] W fun e' W'=>∃q,e' = .returned (.bool (!q))/\E.Q ts E.F sl k q W':=by
 have x:=h.c;have HC:=aH (HR k hk hkl W sl h);clear h HR;generalize E.Q ts E.F sl k=Q at HC ⊢;unfold CopE.F at x;go_enter Tryz.func187,Tryz.ntmps187
 go_wp2_with (go_at_call 185;refine HC.out.mono ?_;rintro e' w1 ⟨q,rfl,hq⟩)
 go_ret;exact ⟨q,rfl,hq⟩
def CopE.IQ (E:CopE) (ts:List Ty) (sl fl:List Int) (r:Int) (W':World):Prop:=
 (r = -1/\∃sl',NewT ts sl sl'/\(∀f∈fl,CovT ts sl' f)/\E.St ts.length W' sl' E.F)\/(0<=r/\(∃f∈fl,copB ts f=false)/\Below E.w0.heap.size E.w0 W')
theorem xAO (E:CopE) (ts:List Ty) (m:Nat) (HR:E.Rec ts m) (fl:List Int) (hfl:∀f∈fl,0<=f/\f<(m:Int)/\f<(ts.length:Int)) (B:Option Addr) (d:Nat) (hs:Slc 1 RInt E.w0 B d fl) (W:World) (sl:List Int) (h:E.St ts.length W sl E.F):
 Calls Tryz.prog 208 #[.slice B fl.length d,.func (.func 187) #[] #[.pointer (some ⟨E.pc,0,none⟩)]] W fun e' W'=>∃r:Int,e' = .returned (.int .i64 r)/\E.IQ ts sl fl r W':=by
 have hle:=hs.le;have hbig:=hs.big;have HS:=aH hs;have H0:=aH h;have HC:=aH (xAR E ts m HR);clear hs h HR;go_enter Tryz.func208,Tryz.ntmps208
 go_wp2_with fail
 go_loopw [8] (fun v wr=>∃(k:Nat) (sl':List Int),k<=fl.length/\v = .int .i64 k/\Hid (E.St ts.length wr sl' E.F)/\Hid (NewT ts sl sl')/\Hid (∀j (hj:j<fl.length),j<k->CovT ts sl' fl[j])) (fun v _=>fl.length - (intOf v).toNat)
 case atStart=>exact ⟨0,sl,by omega,rfl,H0,aH (NewT.refl _ _),aH (fun j _ h=>absurd h (by omega))⟩
 case round=>
  obtain ⟨k,sl',hk,rfl,HST,HN,HD⟩:=hrel;by_cases hlt:k<fl.length
  ·obtain ⟨bb,oo,rfl,hbb,hx⟩:=(HS.out.keep RInt.keeps HST.out.low).sl.at_ hlt;have hy:=hfl fl[k] (bO hlt);obtain ⟨y,hyy⟩:=bI hy.1;have HY:=aH hyy
   have x0:wr.cell? ⟨bb,oo+k,none⟩=some (.int .i64 y):=by
    rw [<- hyy];simpa [RInt] using hx
   have HCK:=aH (HC.out y (by omega) (by omega) wr sl' HST.out);have HMEM:=aH (bO hlt);clear hx hy hyy HC;go_wp2_with (go_at_call 187;refine HCK.out.mono ?_;rintro e' w1 ⟨q,rfl,hq⟩;have HQ:=aH hq;clear hq)
   ·have hqf:q=false:=by cases q <;> simp_all
    go_ret;refine ⟨_,rfl,Or.inr ⟨by omega,⟨_,HMEM.out,?_⟩,?_⟩⟩
    ·rcases HQ.out with ⟨h1,-⟩ | ⟨-,h2,-⟩
     ·rw [hqf] at h1;cases h1
     ·rw [HY.out];exact h2
    ·rcases HQ.out with ⟨h1,-⟩ | ⟨-,-,h3⟩
     ·rw [hqf] at h1;cases h1
     ·exact h3
   ·have hqt:q=true:=by cases q <;> simp_all
    rcases HQ.out with ⟨-,sl2,h1,h2,h3⟩ | ⟨h1,-⟩
    ·go_roundw
     case rel=>
      refine ⟨k+1,sl2,by omega,by go_num,aH h3,aH (HN.out.trans h1),aH (fun j hj hjk=>?_)⟩;rcases Nat.lt_or_ge j k with hjl | hjl
      ·exact (HD.out j hj hjl).mono h1.1
      ·obtain rfl:j=k:=by omega
       rw [HY.out];exact h2
     case measure=>simp [intOf];omega
    ·rw [hqt] at h1;cases h1
  ·clear HC;go_wp2_with fail
   go_ret
   exact ⟨-1,rfl,Or.inl ⟨rfl,sl',HN.out,fun f hf=>by
    obtain ⟨j,hj,rfl⟩:=List.mem_iff_getElem.1 hf
    exact HD.out j hj (by omega),HST.out⟩⟩
theorem xAP (E:CopE) (ts:List Ty) (m:Nat) (HR:E.Rec ts m) (fl:List Int) (hfl:∀f∈fl,0<=f/\f<(m:Int)/\f<(ts.length:Int)) (B:Option Addr) (d:Nat) (hs:Slc 1 RInt E.w0 B d fl) (W:World) (sl:List Int) (h:E.St ts.length W sl E.F):
 Calls Tryz.prog 186 #[.slice B fl.length d,.func (.func 187) #[] #[.pointer (some ⟨E.pc,0,none⟩)]] W fun e' W'=>∃r:Int,e' = .returned (.bool (decide (0<=r)))/\E.IQ ts sl fl r W':=by
 have HC:=aH (xAO E ts m HR fl hfl B d hs W sl h);clear hs h HR hfl;generalize E.IQ ts sl fl=Q at HC ⊢;go_enter Tryz.func186,Tryz.ntmps186
 go_wp2_with (go_at_call 208;refine HC.out.mono ?_;rintro e' w1 ⟨r,rfl,hq⟩)
 go_ret;exact ⟨r,rfl,hq⟩
theorem nR (E:CopE) (ts:List Ty) (HE:E.Ok ts):∀m:Nat,E.Rec ts m
 | 0=>fun _ h=>absurd h (by omega)
 | m+1=>fun i him hi W sl h=>by
   by_cases him2:i<m
   ·exact nR E ts HE m i him2 hi W sl h
   obtain rfl:m=i:=by omega
   have HC:=aH (xAP E ts m (nR E ts HE m));have HOK:=aH (HE.tyok m hi);have HCB:=aH (xC HE.tyok hi);have hn:=HE.n;have hlen:=h.len;have x1:=h.l;have x2:=h.s;have keyi:=key3 (a:=(m:Int)) (by omega) (by omega);have hown:=h.own;have HST:=aH h;have HEE:=aH HE;have hle:=HE.ty.le;have hbig:=HE.ty.big;obtain ⟨bb,oo,hA,hbb,hx⟩:=HE.ty.sl.at_ hi;have HX:=aH hx;have HLOW:=aH h.low;obtain ⟨t,ht⟩:∃t,ts[m]=t:=⟨_,rfl⟩;rw [ht] at HX HOK HCB;obtain ⟨r1,r2,r3,r4,A2,c2,r5,r6,r7,r8⟩:=HX.out;have y1:=cQ HLOW.out r1;have y2:=cQ HLOW.out r2;have y5:=cQ HLOW.out r5;have R5:=aH r5;have HFL:Hid (Slc 1 RInt E.w0 A2 c2 t.flds):=aH ⟨r8,r6,r7⟩;have hbl:=bP hbb h.low.size;have HT:=aH ht;clear hx HX r8 r1 r2 r3 r4 r5 ht h HE him him2;rw [hA] at x1;by_cases h3:t.kind=3
   ·have e3:(t.kind == 3)=true:=by simp [h3]
    have HF:Hid (∀q:Bool,(!t.mu)=q->E.Q ts E.F sl (m:Int) q W):=aH (fun q hq=>by
     cases hmu:t.mu
     ·rw [hmu] at hq;subst hq;exact Or.inl ⟨rfl,sl,NewT.refl _ _,⟨by simpa using hi,by omega,Or.inl (by simp only [bX];rw [HT.out];exact ⟨h3,hmu⟩)⟩,HST.out⟩
     ·rw [hmu] at hq;subst hq
      exact Or.inr ⟨rfl,by rw [HCB.out,bD h3,hmu];rfl,HLOW.out⟩)
    clear hown HC HCB HOK;go_enter Tryz.func185,Tryz.ntmps185
    go_wp2_with fail
    go_ret;exact ⟨_,rfl,HF.out _ rfl⟩
   ·have e3:(t.kind == 3)=false:=by simp [h3]
    by_cases hm:(m:Int)∈sl
    ·have HFB:Hid (i64F (inF sl) (.int .i64 (m:Int))=true):=aH (by simp [i64F,inF,hm]);have HF:Hid (E.Q ts E.F sl (m:Int) true W):=aH (Or.inl ⟨rfl,sl,NewT.refl _ _,⟨by simpa using hi,by omega,Or.inr (by simp only [bX];rw [HT.out];exact ⟨h3,hm⟩)⟩,HST.out⟩);clear HC HCB HOK hm;go_enter Tryz.func185,Tryz.ntmps185
     go_wp2_with (at_lookup;refine dB _ rfl _ _ 129 rfl 3 4 law3 Tryz.underlying129 Tryz.underlying4 (eF _) _ _ _ rfl hown _ _ rfl keyi ?_;rw [HFB.out])
     go_ret;exact ⟨_,rfl,HF.out⟩
    ·have HFB:Hid (i64F (inF sl) (.int .i64 (m:Int))=false):=aH (by simp [i64F,inF,hm]);have HM:=aH hm;have HH3:=aH h3;clear hm h3;go_enter Tryz.func185,Tryz.ntmps185
     go_wp2_with (first
      | (at_lookup;refine dB _ rfl _ _ 129 rfl 3 4 law3 Tryz.underlying129 Tryz.underlying4 (eF _) _ _ _ rfl hown _ _ rfl keyi ?_;rw [HFB.out])
      | (at_mapUpdate;refine eE _ rfl _ _ _ 129 rfl 3 4 law3 Tryz.underlying129 Tryz.underlying4 _ _ _ rfl hown (by unfold maxLen;omega) _ _ _ rfl rfl keyi trivial _ (fI sl (m:Int)) (fW sl (m:Int)) ?_;intro w3 hown3 hg3;have HS3:=aH (HST.out.put HEE.out HM.out ⟨by omega,by omega⟩ hown3 hg3);have z1:=HS3.out.l;have z5:=cQ HS3.out.low R5.out;rw [hA] at z1;clear hown3 hg3)
      | (go_at_call 186;refine (HC.out t.flds (fun f hf=>by have:=HOK.out.2 f hf;omega) A2 c2 HFL.out _ _ HS3.out).mono ?_;rintro e' w4 ⟨r,rfl,hq⟩;have HQ:=aH hq;clear hq))
     go_ret;refine ⟨_,rfl,?_⟩;rcases HQ.out with ⟨rfl,sl2,h1,h2,h4⟩ | ⟨h1,⟨f,hf,hcf⟩,h4⟩
     ·refine Or.inl ⟨rfl,sl2,h1.mark hi (by rw [HT.out];exact h2),⟨by simpa using hi,by omega,Or.inr ?_⟩,h4⟩;simp only [bX];rw [HT.out];exact ⟨HH3.out,h1.1 _ (by simp)⟩
     ·refine Or.inr ⟨by simp [h1],?_,h4⟩;rw [HCB.out,bB HH3.out,Bool.eq_false_iff,ne_eq,List.all_eq_true];intro h0;have:=h0 f hf;rw [hcf] at this;cases this
theorem xEZ (w:World) (n:Nat) (A:Option Addr) (c:Nat) (F:Value) (t1 t2 t3:TypeId):
 CopE.St ⟨w,A,c,w.heap.size,w.heap.size+2,w.heap.size+3,w.heap.size+1⟩ n ((((w.alloc (.cells #[.slice A n c] t1)).alloc (.map #[] 0)).alloc (.cells #[.map (some (w.heap.size+1))] t2)).alloc (.cells #[F] t3)) [] F:=by
 refine ⟨aJ,?_,?_,?_,?_,by simp,by simp⟩
 ·exact cQ ((((aZ _ _).alloc (bA _) _).alloc (by simp) _).alloc (by simp) _) (cT w [.slice A n c] t1 0 _ rfl)
 ·have:=cT ((w.alloc (.cells #[.slice A n c] t1)).alloc (.map #[] 0)) [.map (some (w.heap.size+1))] t2 0 _ rfl;simp only [bK] at this;exact cQ ((aZ _ _).alloc (bA _) _) this
 ·have:=cT (((w.alloc (.cells #[.slice A n c] t1)).alloc (.map #[] 0)).alloc (.cells #[.map (some (w.heap.size+1))] t2)) [F] t3 0 _ rfl;simp only [bK] at this;exact this
 ·have:=OwnB.made (w.alloc (.cells #[.slice A n c] t1)) Tryz.prog 3 4;rw [<- nN,bK] at this;exact (this.alloc _).alloc _
theorem xDJ (ts:List Ty) (hok:TyOk ts) (hn:ts.length<=65535) (i:Int) (A:Option Addr) (c:Nat) (w:World) (hs:Slc 5 RTy w A c ts):
 Calls Tryz.prog 155 #[.slice A ts.length c,.int .i64 i] w fun e' w'=>e' = .returned (.bool (copB ts i))/\Below w.heap.size w w':=by
 have hle:=hs.le;have hbig:=hs.big;by_cases hr:0<=i/\i<(ts.length:Int)
 case neg=>
  rw [xAQ (by omega)];clear hs;go_enter Tryz.func155,Tryz.ntmps155
  go_wp2_with fail
  all_goals first
   | (exfalso;omega)
   | (go_ret;exact ⟨rfl,aJ⟩)
 case pos=>
 obtain ⟨k,rfl⟩:=bI hr.1;have hlt:k<ts.length:=by omega
 have HE:CopE.Ok ⟨w,A,c,w.heap.size,w.heap.size+2,w.heap.size+3,w.heap.size+1⟩ ts:=⟨hs,hok,hn,Nat.le_succ _,by simp,by simp,by simp⟩;have HC:=aH (fun W h=>nR _ ts HE (k+1) k (by omega) hlt W [] h);have HCB:Hid ((∀sl,NewT ts [] sl->∀i:Int,CovT ts sl k->copB ts k=true)/\(copB ts k=false->copB ts k=false)):=aH ⟨fun sl h i hc=>zL hok (sl:=sl) h hc,id⟩;have hmm:= @run_makeMap Tryz.prog;have hst:∀(a:Addr) (fn:Fn) (f c:Array Value) (W:World),(store a (.func fn f c)).run Tryz.prog W=stored Tryz.prog W a (.func fn f c) .plain:=fun a fn f c W=>run_store Tryz.prog W a (.func fn f c) _ rfl
 clear hs HE;go_enter Tryz.func155,Tryz.ntmps155
 go_wp2_with (go_at_call 185;refine (HC.out _ (xEZ w ts.length A c _ _ _ _)).mono ?_;rintro e' w1 ⟨q,rfl,hq⟩;have HQ:=aH hq;clear hq)
 all_goals first
  | (exfalso;omega)
  | (go_ret
     rcases HQ.out with ⟨rfl,sl,h1,h2,h3⟩ | ⟨rfl,h1,h2⟩
     ·exact ⟨by rw [HCB.out.1 sl h1 0 h2];rfl,h3.low⟩
     ·exact ⟨by rw [HCB.out.2 h1];rfl,h2⟩)
end
section
open Go Go.RowKit
theorem xB (d:List Int):∀(l:List Int) (a k:Int),depF d a l=some k->∀i∈l,0<=i/\i<d.length
 | [],_,_,_=>by simp
 | i :: r,a,k,h=>by
   rw [depF] at h;by_cases hi:i<0
   ·rw [bD hi] at h;cases h
   rw [bB hi] at h;cases hx:d[i.toNat]? with
   | none=>rw [hx] at h;cases h
   | some x=>
     rw [hx] at h;have hlt:i.toNat<d.length:=(List.getElem?_eq_some_iff.1 hx).1;intro j hj;rcases List.mem_cons.1 hj with rfl | hj
     ·exact ⟨by omega,by omega⟩
     ·exact xB d r _ k h j hj
def GoodT (m:Nat) (t:Ty):Prop:=(t.kind=3->0<=t.elem/\t.elem<m/\t.flds=[])/\(∀f∈t.flds,0<=f/\f<m)/\0<=t.kind/\t.kind<=4/\(t.kind=4->t.flds.length<=65535)/\(t.kind≠4->t.flds=[])
theorem yA {prev:List Ty} {d:List Int} {n:Int} {t:Ty} (h:(tyE prev d n t).1=0):GoodT d.length t:=by
 unfold tyE at h;by_cases c1:t.kind<0\/4<t.kind
 ·rw [bD c1] at h;cases h
 rw [bB c1] at h;by_cases c2:(t.kind≠3/\(t.mu=true\/t.reg≠0\/t.elem≠0))\/(t.kind≠4/\0<t.flds.length)
 ·rw [bD c2] at h;cases h
 rw [bB c2] at h;by_cases c3:t.kind=3/\(t.reg<0\/n<=t.reg)
 ·rw [bD c3] at h;cases h
 rw [bB c3] at h
 have hfl:t.kind≠4->t.flds=[]:=fun h4=>by
  have:¬0<t.flds.length:=fun h5=>c2 (Or.inr ⟨h4,h5⟩)
  exact List.length_eq_zero_iff.1 (by omega)
 cases hd:depF d 0 (if t.kind=3 then [t.elem] else t.flds) with
 | none=>rw [hd] at h;cases h
 | some k=>
   rw [hd] at h;simp only at h;have hin:=xB d _ _ _ hd;by_cases c4:t.kind=4/\(t.flds.length=0\/65535<t.flds.length)
   ·rw [bD c4] at h;cases h
   refine ⟨fun h3=>?_,fun f hf=>?_,by omega,by omega,fun h4=>by have:¬(t.flds.length=0\/65535<t.flds.length):=fun h=>c4 ⟨h4,h⟩;omega,hfl⟩
   ·rw [bD h3] at hin;have:=hin t.elem (by simp);exact ⟨this.1,this.2,hfl (by omega)⟩
   ·by_cases h3:t.kind=3
    ·rw [hfl (by omega)] at hf;cases hf
    ·rw [bB h3] at hin;exact hin f hf
theorem kO (n:Int):∀(l prev:List Ty) (d:List Int),d.length=prev.length->typesE n prev d l=0->∀i (h:i<l.length),GoodT (prev.length+i) l[i]
 | [],_,_,_,_=>fun i h=>absurd h (by simp)
 | t :: r,prev,d,hd,h=>by
   rw [typesE] at h;by_cases h0:(tyE prev d n t).1=0
   ·rw [bD h0] at h;intro i hi;cases i with
    | zero=>rw [<- hd];exact yA h0
    | succ i=>
      have:=kO n r (prev ++ [t]) (d ++ [(tyE prev d n t).2]) (by simp [hd]) h i (by simpa using hi);rw [bE,cI] at this;rw [show prev.length+(i+1)=prev.length+1+i by omega];simpa using this
   ·rw [bB h0] at h;exact absurd h h0
theorem gQ {n:Int} {l:List Ty} (h:typesC n l=0):l.length<=65535/\∀i (h:i<l.length),GoodT i l[i]:=by
 unfold typesC at h;by_cases h0:65535<l.length
 ·rw [bD h0] at h;cases h
 rw [bB h0] at h;refine ⟨by omega,fun i hi=>?_⟩;have:=kO n l [] [] rfl h i hi;simpa using this
theorem tM {n:Int} {l:List Ty} (h:typesC n l=0):TyOk l:=fun i hi=>⟨((gQ h).2 i hi).1,((gQ h).2 i hi).2.1⟩
theorem lQ {nt:Nat}:∀(l:List Lc) (seen:List ByteArray),localsE nt seen l=0->∀x∈l,isIdent x.name=true/\0<=x.type/\x.type<nt
 | [],_,_=>by simp
 | x :: r,seen,h=>by
   rw [localsE] at h;by_cases h1:isIdent x.name=false
   ·rw [bD h1] at h;cases h
   rw [bB h1] at h;by_cases h2:memN x.name seen=true
   ·rw [bD h2] at h;cases h
   rw [bB h2] at h;by_cases h3:x.type<0\/(nt:Int)<=x.type
   ·rw [bD h3] at h;cases h
   rw [bB h3] at h;intro y hy;rcases List.mem_cons.1 hy with rfl | hy
   ·exact ⟨by simpa using h1,by omega,by omega⟩
   ·exact lQ r _ h y hy
structure DeclOk (b:Bdy):Prop where
 name:isIdent b.name=true
 regs:namesC b.regions=0
 nreg:b.regions.length<=65535
 outl:pairsC b.regions.length b.outl=0
 nout:b.outl.length<=65535
 pairs:∀p∈b.outl,0<=p.1/\p.1<(b.regions.length:Int)/\0<=p.2/\p.2<(b.regions.length:Int)
 typC:typesC b.regions.length b.types=0
 ntyp:b.types.length<=65535
 good:∀i (h:i<b.types.length),GoodT i b.types[i]
 tyok:TyOk b.types
 nloc:b.locals.length<=65535
 locs:∀x∈b.locals,isIdent x.name=true/\0<=x.type/\x.type<b.types.length
 locE:localsE b.types.length [] b.locals=0
 args:0<=b.args/\b.args<=b.locals.length
 nblk:0<b.blocks.length/\b.blocks.length<=65535
 okay:Okay b.types b.locals
theorem lV:∀{l:List Int},firstE l=0->∀x∈l,x=0
 | [],_=>by simp
 | e :: r,h=>by
   rw [firstE] at h;by_cases he:e=0
   ·rw [bD he] at h;intro x hx;rcases List.mem_cons.1 hx with rfl | hx
    ·exact he
    ·exact lV h x hx
   ·rw [bB he] at h;exact absurd h he
theorem fG {b:Bdy} (h:declC b=0):DeclOk b:=by
 unfold declC at h;by_cases h1:isIdent b.name=false
 ·rw [bD h1] at h;cases h
 rw [bB h1] at h;by_cases h2:firstE [namesC b.regions,pairsC b.regions.length b.outl,typesC b.regions.length b.types,localsC b]=0
 ·rw [bD h2] at h;have g:=lV h2;have gn:=g (namesC b.regions) (by simp);have gp:=g (pairsC b.regions.length b.outl) (by simp);have gt:=g (typesC b.regions.length b.types) (by simp);have gl:=g (localsC b) (by simp)
  have hr:b.regions.length<=65535:=by
   unfold namesC at gn;by_cases c:65535<b.regions.length
   ·rw [bD c] at gn;cases gn
   ·omega
  have hp:=mM gp;have ht:=gQ gt;unfold localsC at gl;by_cases c:65535<b.locals.length
  ·rw [bD c] at gl;cases gl
  rw [bB c] at gl;by_cases c2:localsE b.types.length [] b.locals=0
  ·rw [bD c2] at gl;by_cases c3:b.args<0\/(b.locals.length:Int)<b.args
   ·rw [bD c3] at gl;cases gl
   by_cases c4:b.blocks.length=0\/65535<b.blocks.length
   ·rw [bD c4] at h;cases h
   have hl:=lQ _ _ c2;refine ⟨by simpa using h1,gn,hr,gp,hp.1,hp.2,gt,ht.1,ht.2,tM gt,by omega,hl,c2,by omega,by omega,?_,?_,?_⟩
   ·intro t htm h3;obtain ⟨i,hi,rfl⟩:=List.mem_iff_getElem.1 htm;obtain ⟨g1,g2,-⟩:=(ht.2 i hi).1 h3;exact ⟨g1,by omega⟩
   ·intro t htm f hf;obtain ⟨i,hi,rfl⟩:=List.mem_iff_getElem.1 htm;obtain ⟨g1,g2⟩:=(ht.2 i hi).2.1 f hf;exact ⟨g1,by omega⟩
   ·exact fun x hx=>⟨(hl x hx).2.1,(hl x hx).2.2⟩
  ·rw [bB c2] at gl;exact absurd gl c2
 ·rw [bB h2] at h;exact absurd h h2
end
section
open Go Go.RowKit Go.Maps Go.WideMaps
theorem arrP:ArrKey Tryz.prog 42 3 2:=⟨Tryz.underlying42,by kernel_rfl,by kernel_rfl,by kernel_rfl⟩
theorem progN:∃m,Tryz.prog.types.size=m+1:=⟨Tryz.prog.types.size - 1,by kernel_rfl⟩
structure SubE where
 w0:World
 A:Option Addr
 c:Nat
 pk:Nat
 pl:Nat
 pr:Nat
 pf:Nat
 M:Nat
 r:Nat
def SubE.F (E:SubE):Value:= .func (.func 209) #[] #[.pointer (some ⟨E.pk,0,none⟩),.pointer (some ⟨E.pl,0,none⟩),.pointer (some ⟨E.pr,0,none⟩),.pointer (some ⟨E.pf,0,none⟩)]
structure SubE.Ok (E:SubE) (b:Bdy):Prop where
 ty:Slc 5 RTy E.w0 E.A E.c b.types
 ok:DeclOk b
 rel:Rel3 E.w0 E.r b.regions.length (relL b.outl)
 M:E.w0.heap.size<=E.M
 k:E.M≠E.pk
 l:E.M≠E.pl
 r:E.M≠E.pr
 f:E.M≠E.pf
structure SubE.St (E:SubE) (b:Bdy) (W:World) (ks:List (Int × Int)):Prop where
 low:Below E.w0.heap.size E.w0 W
 k:W.cell? ⟨E.pk,0,none⟩=some (.map (some E.M))
 l:W.cell? ⟨E.pl,0,none⟩=some (.slice E.A b.types.length E.c)
 r:W.cell? ⟨E.pr,0,none⟩=some (.pointer (some ⟨E.r,0,none⟩))
 f:W.cell? ⟨E.pf,0,none⟩=some E.F
 memo:Memo Tryz.prog 42 W E.M (subB b) ks
 nd:ks.Nodup
 rng:∀p∈ks,0<=p.1/\p.1<(b.types.length:Int)/\0<=p.2/\p.2<(b.types.length:Int)
theorem SubE.St.len {E:SubE} {b:Bdy} {W:World} {ks:List (Int × Int)} (h:E.St b W ks):ks.length<=b.types.length * b.types.length:=oQ _ dY ks h.nd h.rng
theorem SubE.St.lt {E:SubE} {b:Bdy} {W:World} {ks:List (Int × Int)} (h:E.St b W ks) (hE:E.Ok b):ks.length<maxLen:=by
 have h1:=h.len;have h2:=hE.ok.ntyp;have h3:b.types.length * b.types.length<=65535 * 65535:=Nat.mul_le_mul h2 h2;unfold maxLen;omega
theorem SubE.St.keep {E:SubE} {b:Bdy} {W W':World} {ks:List (Int × Int)} (h:E.St b W ks) (hb:Below W.heap.size W W'):E.St b W' ks:=
 ⟨h.low.trans (hb.mono h.low.size),cQ hb h.k,cQ hb h.l,cQ hb h.r,cQ hb h.f,h.memo.below hb,h.nd,h.rng⟩
theorem SubE.St.put {E:SubE} {b:Bdy} {W W':World} {ks:List (Int × Int)} (h:E.St b W ks) (hE:E.Ok b) {s t:Int} (hi:(s,t)∉ks) (hr:0<=s/\s<(b.types.length:Int)/\0<=t/\t<(b.types.length:Int))
 (hm:Memo Tryz.prog 42 W' E.M (subB b) ((s,t) :: ks)) (hg:W.grownBy W' (some E.M)):E.St b W' ((s,t) :: ks):=by
 have hc:∀(p:Nat) (v:Value),E.M≠p->W.cell? ⟨p,0,none⟩=some v->W'.cell? ⟨p,0,none⟩=some v:=fun p v hne hv=>dR hg hv (by simpa using (Ne.symm hne))
 refine ⟨h.low.trans (dN hg hE.M h.low.size),hc _ _ hE.k h.k,hc _ _ hE.l h.l,hc _ _ hE.r h.r,hc _ _ hE.f h.f,hm,List.nodup_cons.2 ⟨hi,h.nd⟩,fun x hx=>?_⟩;rcases List.mem_cons.1 hx with rfl | hx
 ·exact hr
 ·exact h.rng x hx
def SubE.Q (E:SubE) (b:Bdy) (W:World) (ks:List (Int × Int)) (s t:Int) (W':World):Prop:=
 ∃ks',E.St b W' ks'/\(∀p∈ks',p∈ks\/p.1+p.2<=s+t)/\W.grownBy W' (some E.M)
def SubE.Ph (E:SubE) (b:Bdy) (W:World) (ks:List (Int × Int)) (n:Int) (W':World):Prop:=
 ∃ks',E.St b W' ks'/\(∀p∈ks',p∈ks\/p.1+p.2<n)/\W.grownBy W' (some E.M)
theorem SubE.Ph.start {E:SubE} {b:Bdy} {W W1:World} {ks:List (Int × Int)} (h:E.St b W ks) (hb:Below W.heap.size W W1) (n:Int):E.Ph b W1 ks n W1:=
 ⟨ks,h.keep hb,fun _p hp=>Or.inl hp,eK (aZ _ _) _⟩
theorem SubE.Ph.keep {E:SubE} {b:Bdy} {W W1 W2:World} {ks:List (Int × Int)} {n:Int} (h:E.Ph b W ks n W1) (hb:Below W1.heap.size W1 W2):E.Ph b W ks n W2:=by
 obtain ⟨k1,h1,h2,h3⟩:=h;exact ⟨k1,h1.keep hb,h2,h3.trans (eK hb _)⟩
theorem SubE.Ph.call {E:SubE} {b:Bdy} {W W1 W2:World} {ks ks1:List (Int × Int)} {n s t:Int} (_h1:E.St b W1 ks1) (h2:∀p∈ks1,p∈ks\/p.1+p.2<n) (h3:W.grownBy W1 (some E.M)) (hq:E.Q b W1 ks1 s t W2) (hlt:s+t<n):E.Ph b W ks n W2:=by
 obtain ⟨k2,q1,q2,q3⟩:=hq;refine ⟨k2,q1,fun p hp=>?_,h3.trans q3⟩;rcases q2 p hp with h | h
 ·exact h2 p h
 ·exact Or.inr (by omega)
theorem SubE.fin {E:SubE} {b:Bdy} {W W1 wz w9:World} {ks kz:List (Int × Int)} {s t:Int} (hE:E.Ok b) (hM:(s,t)∉ks) (hr:0<=s/\s<(b.types.length:Int)/\0<=t/\t<(b.types.length:Int)) (hB1:Below W.heap.size W W1)
 (hstz:E.St b wz kz) (hnz:∀p∈kz,p∈ks\/p.1+p.2<s+t) (hgz:W1.grownBy wz (some E.M)) (hm9:Memo Tryz.prog 42 w9 E.M (subB b) ((s,t) :: kz)) (hg9:wz.grownBy w9 (some E.M)):E.Q b W ks s t w9:=by
 refine ⟨(s,t) :: kz,hstz.put hE (fun h=>?_) hr hm9 hg9,fun p hp=>?_,((eK hB1 _).trans hgz).trans hg9⟩
 ·rcases hnz _ h with h | h
  ·exact hM h
  ·exact absurd h (by simp)
 ·rcases List.mem_cons.1 hp with rfl | hp
  ·exact Or.inr (Int.le_refl _)
  ·rcases hnz p hp with h | h
   ·exact Or.inl h
   ·exact Or.inr (by omega)
def SubE.Rec (E:SubE) (b:Bdy) (m:Nat):Prop:=∀s t:Nat,s+t<m->s<b.types.length->t<b.types.length->∀W ks,E.St b W ks->
 Calls Tryz.prog 209 #[.int .i64 s,.int .i64 t,.pointer (some ⟨E.pk,0,none⟩),.pointer (some ⟨E.pl,0,none⟩),.pointer (some ⟨E.pr,0,none⟩),.pointer (some ⟨E.pf,0,none⟩)] W fun e' W'=>e' = .returned (.bool (subB b s t))/\E.Q b W ks s t W'
def ty0:Obj:= .cells #[.int .i64 0,.bool false,.int .i64 0,.int .i64 0,.slice none 0 0] 104
def tyL (t:Ty) (A:Option Addr) (c:Nat):List Value:=[.int .i64 t.kind,.bool t.mu,.int .i64 t.reg,.int .i64 t.elem,.slice A t.flds.length c]
theorem nI (W:World) (ga gb:Nat) (a b:Ty) (A B:Option Addr) (c d:Nat) (h:(ga=W.heap.size/\gb=W.heap.size+1)\/(ga=W.heap.size+1/\gb=W.heap.size)):
 Below W.heap.size W ((((W.alloc ty0).alloc ty0).setCells ga 0 (tyL a A c)).setCells gb 0 (tyL b B d))/\(∀i v,(tyL a A c)[i]?=some v->((((W.alloc ty0).alloc ty0).setCells ga 0 (tyL a A c)).setCells gb 0 (tyL b B d)).cell? ⟨ga,i,none⟩=some v)/\(∀i v,(tyL b B d)[i]?=some v->((((W.alloc ty0).alloc ty0).setCells ga 0 (tyL a A c)).setCells gb 0 (tyL b B d)).cell? ⟨gb,i,none⟩=some v):=by
 have t0:(W.alloc ty0).there W.heap.size 0 5:=dK W _ _ _ 5 rfl (by simp);have t1:((W.alloc ty0).alloc ty0).there W.heap.size 0 5:=World.there_alloc t0 _;have t2:((W.alloc ty0).alloc ty0).there (W.heap.size+1) 0 5:=dK _ _ _ _ 5 (by simp) (by simp);have ta:((W.alloc ty0).alloc ty0).there ga 0 (tyL a A c).length:=by rcases h with ⟨h,-⟩ | ⟨h,-⟩ <;> rw [h] <;> assumption
 have tb:((W.alloc ty0).alloc ty0).there gb 0 (tyL b B d).length:=by rcases h with ⟨-,h⟩ | ⟨-,h⟩ <;> rw [h] <;> assumption
 refine ⟨dM (by omega) _ _ _ (dM (by omega) _ _ _ aJ),fun i v hi=>?_,fun i v hi=>?_⟩
 ·have:=World.rangeAt_setCells_apart (World.rangeAt_setCells_same _ _ _ _ ta) gb 0 (tyL b B d) (Or.inl (by omega)) i v hi;simpa using this
 ·have:=World.rangeAt_setCells_same _ _ _ _ (World.there_setCells tb ga 0 (tyL a A c)) i v hi;simpa using this
theorem xCB (E:SubE) (b:Bdy) (HE:E.Ok b) (m:Nat) (HREC0:E.Rec b m) (s t:Nat) (hm:s+t<m+1) (hs:s<b.types.length) (ht:t<b.types.length) (W:World) (ks:List (Int × Int)) (h:E.St b W ks) (hmem:((s:Int),(t:Int))∉ks) (hcase:((b.types[s].kind == b.types[t].kind) && (b.types[s].mu == b.types[t].mu) && ((b.types[s].flds.length:Int) == (b.types[t].flds.length:Int)) && (b.types[s].kind == 3))=true):
 Calls Tryz.prog 209 #[.int .i64 s,.int .i64 t,.pointer (some ⟨E.pk,0,none⟩),.pointer (some ⟨E.pl,0,none⟩),.pointer (some ⟨E.pr,0,none⟩),.pointer (some ⟨E.pf,0,none⟩)] W fun e' W'=>e' = .returned (.bool (subB b s t))/\E.Q b W ks s t W':=by
 have HREC:=aH HREC0;have HSB:=aH (pQ HE.ok.tyok hs ht);have HOKS:=aH (HE.ok.tyok s hs);have HOKT:=aH (HE.ok.tyok t ht);have hn:=HE.ok.ntyp;have hlen:=h.lt HE;have wfs:(Lit.int .i64 (s:Int)).wf=true:=WalkArith.wf_i64 (by omega);have wft:(Lit.int .i64 (t:Int)).wf=true:=WalkArith.wf_i64 (by omega);have x1:=h.k;have x2:=h.l;have x3:=h.r;have x4:=h.f;have hmemo:=h.memo;have HST:=aH h;have HEE:=aH HE;have hle:=HE.ty.le;have hbig:=HE.ty.big;have HMD:Hid (decide (((s:Int),(t:Int))∈ks)=false):=aH (by simp [hmem]);have HM:=aH hmem;obtain ⟨bb,oo,hA,hbb,hxs⟩:=HE.ty.sl.at_ hs;obtain ⟨b2,o2,hA2,hbb2,hxt⟩:=HE.ty.sl.at_ ht;have hAA:some (⟨bb,oo,none⟩:Addr)=some ⟨b2,o2,none⟩:=hA.symm.trans hA2;simp only [cK,Addr.mk.injEq,and_true] at hAA;obtain ⟨rfl,rfl⟩:=hAA;clear hA2 hbb2;obtain ⟨ta,hta⟩:∃x,b.types[s]=x:=⟨_,rfl⟩;obtain ⟨tb,htb⟩:∃x,b.types[t]=x:=⟨_,rfl⟩;rw [hta] at hxs HSB HOKS hcase;rw [htb] at hxt HSB HOKT hcase;obtain ⟨r0,r1,r2,r3,A2,c2,r4,r6,r7,r8⟩:=hxs;obtain ⟨q0,q1,q2,q3,B2,d2,q4,q6,q7,q8⟩:=hxt;have HFA:Hid (Slc 1 RInt E.w0 A2 c2 ta.flds):=aH ⟨r8,r6,r7⟩;have HFB:Hid (Slc 1 RInt E.w0 B2 d2 tb.flds):=aH ⟨q8,q6,q7⟩;have hb0:=h.low;replace r0:=cQ hb0 r0;replace r1:=cQ hb0 r1;replace r2:=cQ hb0 r2;replace r3:=cQ hb0 r3;replace r4:=cQ hb0 r4;replace q0:=cQ hb0 q0;replace q1:=cQ hb0 q1;replace q2:=cQ hb0 q2;replace q3:=cQ hb0 q3;replace q4:=cQ hb0 q4;rw [hA] at x2;clear r8 q8 hta htb hb0 h HE hmem;go_enter Tryz.func209,Tryz.ntmps209;go_wp2_with (at_lookup;refine eY _ rfl _ _ 89 rfl 42 3 4 arrP Tryz.underlying3 progN Tryz.underlying89 (eF _) _ _ _ rfl hmemo _ _ rfl wfs wft ?_;rw [bB HM.out,HMD.out])
 have hS:Below W.heap.size W W.drew:=(aZ _ _).drew;refine cZ (S:=fun X=>Below W.heap.size W X) [0,1,2,3,4,5,6,7,8,9,10,11] (by kernel_rfl) ?_;(iterate 8 (refine cY (v:=?_) ?_ hS ?_;rotate_left;(next=>(rintro X hX;have s0:=cQ hX x2;have u0:=cQ hX r0;have u1:=cQ hX r1;have u2:=cQ hX r2;have u3:=cQ hX r3;have u4:=cQ hX r4;have v0:=cQ hX q0;have v1:=cQ hX q1;have v2:=cQ hX q2;have v3:=cQ hX q3;have v4:=cQ hX q4;(try simp only [aK]);go_simp;rfl));simp only [aO]));have hS1:Below W.heap.size W (W.drew.alloc ty0):=aJ;have hS2:Below W.heap.size W ((W.drew.alloc ty0).alloc ty0):=aJ;refine iK [0,1,2,3,4,5,6,7,9,8,10,11] ty0 (by kernel_rfl) ?_ ?_ ?_ hS1 hS2 ?_
 ·intro a1 w1 K hK;(simp only [aO]);rw [bD (by rfl)];go_simp;exact hK
 ·intro a1 w1 K hK;(simp only [aO]);rw [bD (by rfl)];go_simp;exact hK
 ·exact fun _ _=>rfl
 intro ga gb hg;obtain ⟨hB1,ya,yb⟩:=nI W.drew ga gb ta tb A2 B2 c2 d2 hg;have hS3:Below W.heap.size W (((W.drew.alloc ty0).alloc ty0).setCells ga 0 (tyL ta A2 c2)):=dM (by rcases hg with h | h <;> (rw [h.1];simp)) _ _ _ hS2
 have tha:((W.drew.alloc ty0).alloc ty0).there ga 0 (tyL ta A2 c2).toArray.size:=by
  rcases hg with ⟨h,-⟩ | ⟨h,-⟩ <;> rw [h]
  ·exact World.there_alloc (dK _ _ _ _ 5 rfl (by simp)) _
  ·exact dK _ _ _ _ 5 (by simp) (by simp)
 have thb:((W.drew.alloc ty0).alloc ty0).there gb 0 (tyL tb B2 d2).toArray.size:=by
  rcases hg with ⟨-,h⟩ | ⟨-,h⟩ <;> rw [h]
  ·exact dK _ _ _ _ 5 (by simp) (by simp)
  ·exact World.there_alloc (dK _ _ _ _ 5 rfl (by simp)) _
 have hS4:Below W.heap.size W ((((W.drew.alloc ty0).alloc ty0).setCells ga 0 (tyL ta A2 c2)).setCells gb 0 (tyL tb B2 d2)):=hS.trans (hB1.mono (bA _));have hne:ga≠gb/\W.heap.size<=ga/\W.heap.size<=gb:=by rcases hg with ⟨rfl,rfl⟩ | ⟨rfl,rfl⟩ <;> simp
 have hML:=HST.out.memo.lt;have hM:E.M≠ga/\E.M≠gb:=by omega
 clear hg;have thc:=World.there_setCells thb ga 0 (tyL ta A2 c2);generalize (W.drew.alloc ty0).alloc ty0=W8 at *;have E9:∃W9,W8.setCells ga 0 (tyL ta A2 c2)=W9:=⟨_,rfl⟩;obtain ⟨W9,e9⟩:=E9;obtain ⟨W1,e1⟩:∃W1,W9.setCells gb 0 (tyL tb B2 d2)=W1:=⟨_,rfl⟩;rw [e9] at hB1 ya yb hS3 hS4 thc;rw [e1] at hB1 ya yb hS4;(refine cX (fun K1 hK1=>?_);simp only [aO];rw [bD (by rfl)]);refine wp_store_mid 104 (.tmp 11) (.tmp 27) rfl ga 0 (tyL ta A2 c2).toArray rfl rfl tha (by kernel_rfl) (by simp [tyL,Value.oneCell']) ?_;rw [List.toList_toArray,e9];refine hK1.out _ _ (fun _=>hS3) ?_;clear hK1;(refine cX (fun K1 hK1=>?_);simp only [aO];rw [bD (by rfl)]);refine wp_store_mid 104 (.tmp 12) (.tmp 31) rfl gb 0 (tyL tb B2 d2).toArray rfl rfl thc (by kernel_rfl) (by simp [tyL,Value.oneCell']) ?_;rw [List.toList_toArray,e1];refine hK1.out _ _ (fun _=>hS4) ?_;clear hK1;refine dI ?_;(simp only [aO]);obtain ⟨ya0,ya1,ya2,ya3,ya4⟩:=aS ya;obtain ⟨yb0,yb1,yb2,yb3,yb4⟩:=aS yb;have hst1:=HST.out.keep hS4;have HPH:=aH (SubE.Ph.start HST.out hS4 ((s:Int)+t));have HB1:=aH hS4;have HM1:=aH hM
 have HC:Hid (∀X,E.Ph b W1 ks ((s:Int)+t) X->(aD (tyL ta A2 c2) X ga)/\(aD (tyL tb B2 d2) X gb)/\X.cell? ⟨E.pf,0,none⟩=some E.F/\X.cell? ⟨E.pr,0,none⟩=some (.pointer (some ⟨E.r,0,none⟩))/\X.cell? ⟨E.pk,0,none⟩=some (.map (some E.M))/\Below E.w0.heap.size E.w0 X):=aH (fun X ⟨kx,h1,h2,h3⟩=>
  ⟨fun i v hi=>dR h3 (ya i v hi) (by simpa using Ne.symm HM1.out.1),fun i v hi=>dR h3 (yb i v hi) (by simpa using Ne.symm HM1.out.2),h1.f,h1.r,h1.k,h1.low⟩)
 have hbp:=HST.out.memo.lt;clear hS hS1 hS2 hS3 hS4 hB1 ya yb tha thb thc e9 e1 x1 x2 x3 x4 hmemo r0 r1 r2 r3 r4 q0 q1 q2 q3 q4 hM hML
 have HCALL:Hid (∀x y:Int,0<=x->0<=y->x+y<(s:Int)+t->x<(b.types.length:Int)->y<(b.types.length:Int)->∀X,E.Ph b W1 ks ((s:Int)+t) X->
  Calls Tryz.prog 209 #[.int .i64 x,.int .i64 y,.pointer (some ⟨E.pk,0,none⟩),.pointer (some ⟨E.pl,0,none⟩),.pointer (some ⟨E.pr,0,none⟩),.pointer (some ⟨E.pf,0,none⟩)] X fun e' X'=>e' = .returned (.bool (subB b x y))/\E.Ph b W1 ks ((s:Int)+t) X'):=aH (fun x y hx hy hxy hxl hyl X ⟨kx,h1,h2,h3⟩=>by
  obtain ⟨x,rfl⟩:=bI hx;obtain ⟨y,rfl⟩:=bI hy;refine (HREC.out x y (by omega) (by omega) (by omega) X kx h1).mono ?_;rintro e' X' ⟨rfl,hq⟩
  exact ⟨rfl,SubE.Ph.call h1 h2 h3 hq hxy⟩)
 clear HREC hn;obtain ⟨p1,hp1⟩:∃q,(ta.kind == tb.kind)=q:=⟨_,rfl⟩;obtain ⟨p2,hp2⟩:∃q,(ta.mu == tb.mu)=q:=⟨_,rfl⟩;obtain ⟨p3,hp3⟩:∃q,((ta.flds.length:Int) == (tb.flds.length:Int))=q:=⟨_,rfl⟩;obtain ⟨p4,hp4⟩:∃q,(ta.kind == 3)=q:=⟨_,rfl⟩;rw [hp1,hp2,hp3,hp4] at hcase;have HCASE:=aH hcase;clear hcase;have HP1:=aH hp1;have HP2:=aH hp2;have HP3:=aH hp3;have HP4:=aH hp4
 have HLAW:Hid (∀q:Bool,(p1=true->p2=true->p3=true->p4=true->q=(outB b.outl b.regions.length ta.reg tb.reg && subB b ta.elem tb.elem && (!ta.mu || subB b tb.elem ta.elem)))->(¬(p1=true/\p2=true/\p3=true/\p4=true)->q=(p1 && p2 && p3))->
  subB b s t=(q && (((ta.flds.drop 0).zip (tb.flds.drop 0)).all (fun p=>subB b p.1 p.2)))/\(q=true->ta.flds.length=tb.flds.length)):=aH (fun q h1 h2=>by
  rw [HSB.out];unfold subS;have g1:decide (ta.kind=tb.kind)=p1:=by rw [<- HP1.out];rfl
  have g2:decide (ta.mu=tb.mu)=p2:=by rw [<- HP2.out];cases ta.mu <;> cases tb.mu <;> rfl
  have g3:decide (ta.flds.length=tb.flds.length)=p3:=by rw [<- HP3.out,lM]
  have g4:decide (ta.kind≠3) = !p4:=by rw [<- HP4.out];by_cases h:ta.kind=3 <;> simp [h]
  have g5:p4=true->ta.flds=[]:=fun h=>(HOKS.out.1 (by rw [<- HP4.out] at h;simpa using h)).2.2
  rw [g1,g2,g3,g4,bZ,bZ];have g6:p3=true->ta.flds.length=tb.flds.length:=fun h=>by rw [<- g3] at h;simpa using h
  cases p1 <;> cases p2 <;> cases p3 <;> cases p4 <;> simp_all)
 clear HSB;have HR:Hid (0<=(s:Int)/\(s:Int)<(b.types.length:Int)/\0<=(t:Int)/\(t:Int)<(b.types.length:Int)):=aH ⟨by omega,by omega,by omega,by omega⟩
 have HO:Hid (∀X,E.Ph b W1 ks ((s:Int)+t) X->Calls Tryz.prog 184 #[.pointer (some ⟨E.r,0,none⟩),.int .i64 ta.reg,.int .i64 tb.reg] X fun e' X'=>e' = .returned (.bool (outB b.outl b.regions.length ta.reg tb.reg))/\E.Ph b W1 ks ((s:Int)+t) X'):=aH (fun X hX=>by
  refine (kC b.outl b.regions.length ta.reg tb.reg E.r X (HEE.out.rel.keep (HC.out X hX).2.2.2.2.2) HEE.out.ok.pairs (by have:=HEE.out.ok.nreg;omega) HEE.out.ok.nout).mono ?_;rintro e' X' ⟨rfl,hb⟩
  exact ⟨rfl,hX.keep hb⟩)
 obtain ⟨z1,z2,z3,z4⟩:W1.cell? ⟨E.pf,0,none⟩=some E.F/\W1.cell? ⟨E.pr,0,none⟩=some (.pointer (some ⟨E.r,0,none⟩))/\W1.cell? ⟨E.pk,0,none⟩=some (.map (some E.M))/\True:=⟨hst1.f,hst1.r,hst1.k,trivial⟩;clear hst1 z4;unfold SubE.F at z1;have hall:p1=true/\p2=true/\p3=true/\p4=true:=by have:=HCASE.out;revert this;cases p1 <;> cases p2 <;> cases p3 <;> cases p4 <;> simp
 clear HCASE
 ·obtain ⟨rfl,rfl,rfl,rfl⟩:=hall;have h3:ta.kind=3:=by simpa using hp4
  have h3b:tb.kind=3:=by have:ta.kind=tb.kind:=by simpa using hp1
                         rw [<- this];exact h3
  obtain ⟨a1,a2,-⟩:=HOKS.out.1 h3;obtain ⟨b1,b2,-⟩:=HOKT.out.1 h3b;have HSS:=aH (fun (x y:Int) (hxy:(x=ta.elem/\y=tb.elem)\/(x=tb.elem/\y=ta.elem))=>HCALL.out x y (by omega) (by omega) (by omega) (by omega) (by omega));have HF0:Hid (ta.flds.length=0):=aH (by rw [(HOKS.out.1 h3).2.2];rfl);clear a1 a2 b1 b2 h3 h3b HOKS HOKT;have HL2:Hid (∀q:Bool,q=(outB b.outl b.regions.length ta.reg tb.reg && subB b ta.elem tb.elem && (!ta.mu || subB b tb.elem ta.elem))->subB b s t=(q && (((ta.flds.drop 0).zip (tb.flds.drop 0)).all (fun p=>subB b p.1 p.2)))/\(q=true->ta.flds.length=tb.flds.length)):=aH (fun q hq=>HLAW.out q (fun _ _ _ _=>hq) (fun h=>absurd ⟨rfl,rfl,rfl,rfl⟩ h));clear HLAW HP1 HP2 HP3 HP4;generalize outB b.outl b.regions.length ta.reg tb.reg=o1 at HO HL2;obtain ⟨s1,hs1⟩:∃q,subB b ta.elem tb.elem=q:=⟨_,rfl⟩;obtain ⟨s2,hs2⟩:∃q,subB b tb.elem ta.elem=q:=⟨_,rfl⟩;rw [hs1,hs2] at HL2;have HE1:=aH hs1;have HE2:=aH hs2;clear HCALL hs1 hs2;generalize hmu:ta.mu=mu at *;rcases (show o1=false\/(o1=true/\s1=false)\/(o1=true/\s1=true/\mu=false)\/(o1=true/\s1=true/\mu=true) by cases o1 <;> cases s1 <;> cases mu <;> simp) with rfl | ⟨rfl,rfl⟩ | ⟨rfl,rfl,rfl⟩ | ⟨rfl,rfl,rfl⟩
  ·have HV:=aH (HL2.out false rfl);go_wp2_with (go_at_call 184;refine (HO.out _ HPH.out).mono ?_;rintro e' w1 ⟨rfl,hq⟩;have HQ1:=aH hq;obtain ⟨ca,cb,cf,cr,ck,-⟩:=HC.out _ hq;unfold SubE.F at cf;obtain ⟨ca0,ca1,ca2,ca3,ca4⟩:=aS ca;obtain ⟨cb0,cb1,cb2,cb3,cb4⟩:=aS cb;clear ca cb;try rw [hmu] at ca1;clear hq)
   have HPZ:=HQ1;have HVV:Hid (subB b s t=false):=aH (by rw [HV.out.1];rfl);(try clear HCALL);(try clear HSS);(try clear HE1);(try clear HE2); (try clear HO);(try clear HL2);(try clear HLAW);go_loopg [9,13] 0 (fun gk v i wr=>v = .bool false/\i = .int .i64 0/\Hid (E.Ph b W1 ks ((s:Int)+t) wr));(case atStart=>exact ⟨rfl,rfl,HPZ⟩);(case round=>(obtain ⟨rfl,rfl,HPZ⟩:=hrel;obtain ⟨kz,hstz,hnz,hgz⟩:=HPZ.out;have HSZ:=aH hstz;have HNZ:=aH hnz;have HGZ:=aH hgz;have hkz:=hstz.k;clear hnz hgz;go_wp2_with (at_mapUpdate;refine dF _ rfl _ _ _ 89 rfl 42 3 4 arrP Tryz.underlying3 progN Tryz.underlying89 _ _ _ rfl hstz.memo (hstz.lt HEE.out) _ _ rfl wfs wft (by rw [HVV.out];rfl) ?_;intro w9 hm9 hg9;have HM9:=aH hm9;have HG9:=aH hg9;clear hm9 hg9);clear hstz;go_ret;refine ⟨?_,SubE.fin HEE.out HM.out HR.out HB1.out HSZ.out HNZ.out HGZ.out HM9.out HG9.out⟩;rw [HVV.out];rfl))
  ·have HV:=aH (HL2.out false rfl);go_wp2_with (first | (go_at_call 184;refine (HO.out _ HPH.out).mono ?_;rintro e' w1 ⟨rfl,hq⟩;have HQ1:=aH hq;obtain ⟨ca,cb,cf,cr,ck,-⟩:=HC.out _ hq;unfold SubE.F at cf;obtain ⟨ca0,ca1,ca2,ca3,ca4⟩:=aS ca;obtain ⟨cb0,cb1,cb2,cb3,cb4⟩:=aS cb;clear ca cb;try rw [hmu] at ca1;clear hq) | (go_at_call 209;refine (HSS.out _ _ (by first | exact Or.inl ⟨rfl,rfl⟩ | exact Or.inr ⟨rfl,rfl⟩) _ (by exact HQ1.out)).mono ?_;rintro e' w2 ⟨rfl,hq⟩;rw [HE1.out];have HQ2:=aH hq;obtain ⟨ca,cb,cf,cr,ck,-⟩:=HC.out _ hq;unfold SubE.F at cf;obtain ⟨ca0,ca1,ca2,ca3,ca4⟩:=aS ca;obtain ⟨cb0,cb1,cb2,cb3,cb4⟩:=aS cb;clear ca cb;try rw [hmu] at ca1;clear hq))
   have HPZ:=HQ2;have HVV:Hid (subB b s t=false):=aH (by rw [HV.out.1];rfl);(try clear HCALL);(try clear HSS);(try clear HE1);(try clear HE2); (try clear HO);(try clear HL2);(try clear HLAW);go_loopg [9,13] 0 (fun gk v i wr=>v = .bool false/\i = .int .i64 0/\Hid (E.Ph b W1 ks ((s:Int)+t) wr));(case atStart=>exact ⟨rfl,rfl,HPZ⟩);(case round=>(obtain ⟨rfl,rfl,HPZ⟩:=hrel;obtain ⟨kz,hstz,hnz,hgz⟩:=HPZ.out;have HSZ:=aH hstz;have HNZ:=aH hnz;have HGZ:=aH hgz;have hkz:=hstz.k;clear hnz hgz;go_wp2_with (at_mapUpdate;refine dF _ rfl _ _ _ 89 rfl 42 3 4 arrP Tryz.underlying3 progN Tryz.underlying89 _ _ _ rfl hstz.memo (hstz.lt HEE.out) _ _ rfl wfs wft (by rw [HVV.out];rfl) ?_;intro w9 hm9 hg9;have HM9:=aH hm9;have HG9:=aH hg9;clear hm9 hg9);clear hstz;go_ret;refine ⟨?_,SubE.fin HEE.out HM.out HR.out HB1.out HSZ.out HNZ.out HGZ.out HM9.out HG9.out⟩;rw [HVV.out];rfl))
  ·have HV:=aH (HL2.out true rfl);go_wp2_with (first | (go_at_call 184;refine (HO.out _ HPH.out).mono ?_;rintro e' w1 ⟨rfl,hq⟩;have HQ1:=aH hq;obtain ⟨ca,cb,cf,cr,ck,-⟩:=HC.out _ hq;unfold SubE.F at cf;obtain ⟨ca0,ca1,ca2,ca3,ca4⟩:=aS ca;obtain ⟨cb0,cb1,cb2,cb3,cb4⟩:=aS cb;clear ca cb;try rw [hmu] at ca1;clear hq) | (go_at_call 209;refine (HSS.out _ _ (by first | exact Or.inl ⟨rfl,rfl⟩ | exact Or.inr ⟨rfl,rfl⟩) _ (by exact HQ1.out)).mono ?_;rintro e' w2 ⟨rfl,hq⟩;rw [HE1.out];have HQ2:=aH hq;obtain ⟨ca,cb,cf,cr,ck,-⟩:=HC.out _ hq;unfold SubE.F at cf;obtain ⟨ca0,ca1,ca2,ca3,ca4⟩:=aS ca;obtain ⟨cb0,cb1,cb2,cb3,cb4⟩:=aS cb;clear ca cb;try rw [hmu] at ca1;clear hq))
   have HPZ:=HQ2;have HVV:Hid (subB b s t=true):=aH (by rw [HV.out.1,List.length_eq_zero_iff.1 HF0.out];rfl);(try clear HCALL);(try clear HSS);(try clear HE1);(try clear HE2); (try clear HO);(try clear HL2);(try clear HLAW);go_loopg [9,13] 0 (fun gk v i wr=>v = .bool true/\i = .int .i64 0/\Hid (E.Ph b W1 ks ((s:Int)+t) wr));(case atStart=>exact ⟨rfl,rfl,HPZ⟩);(case round=>(obtain ⟨rfl,rfl,HPZ⟩:=hrel;have hq:=HPZ.out;obtain ⟨ca,cb,cf,cr,ck,-⟩:=HC.out _ hq;unfold SubE.F at cf;obtain ⟨ca0,ca1,ca2,ca3,ca4⟩:=aS ca;obtain ⟨cb0,cb1,cb2,cb3,cb4⟩:=aS cb;clear ca cb;have hf0:=HF0.out;have e0:¬((0:Int)<(ta.flds.length:Int)):=(by omega);clear hq;obtain ⟨kz,hstz,hnz,hgz⟩:=HPZ.out;have HSZ:=aH hstz;have HNZ:=aH hnz;have HGZ:=aH hgz;have hkz:=hstz.k;clear hnz hgz;go_wp2_with (at_mapUpdate;refine dF _ rfl _ _ _ 89 rfl 42 3 4 arrP Tryz.underlying3 progN Tryz.underlying89 _ _ _ rfl hstz.memo (hstz.lt HEE.out) _ _ rfl wfs wft (by rw [HVV.out];rfl) ?_;intro w9 hm9 hg9;have HM9:=aH hm9;have HG9:=aH hg9;clear hm9 hg9);clear hstz;go_ret;refine ⟨?_,SubE.fin HEE.out HM.out HR.out HB1.out HSZ.out HNZ.out HGZ.out HM9.out HG9.out⟩;rw [HVV.out];rfl))
  ·have HV:=aH (HL2.out s2 (by simp));cases s2
   ·go_wp2_with (first | (go_at_call 184;refine (HO.out _ HPH.out).mono ?_;rintro e' w1 ⟨rfl,hq⟩;have HQ1:=aH hq;obtain ⟨ca,cb,cf,cr,ck,-⟩:=HC.out _ hq;unfold SubE.F at cf;obtain ⟨ca0,ca1,ca2,ca3,ca4⟩:=aS ca;obtain ⟨cb0,cb1,cb2,cb3,cb4⟩:=aS cb;clear ca cb;try rw [hmu] at ca1;clear hq) | (go_at_call 209;refine (HSS.out _ _ (by first | exact Or.inl ⟨rfl,rfl⟩ | exact Or.inr ⟨rfl,rfl⟩) _ (by exact HQ1.out)).mono ?_;rintro e' w2 ⟨rfl,hq⟩;rw [HE1.out];have HQ2:=aH hq;obtain ⟨ca,cb,cf,cr,ck,-⟩:=HC.out _ hq;unfold SubE.F at cf;obtain ⟨ca0,ca1,ca2,ca3,ca4⟩:=aS ca;obtain ⟨cb0,cb1,cb2,cb3,cb4⟩:=aS cb;clear ca cb;try rw [hmu] at ca1;clear hq) | (go_at_call 209;refine (HSS.out _ _ (by first | exact Or.inl ⟨rfl,rfl⟩ | exact Or.inr ⟨rfl,rfl⟩) _ (by exact HQ2.out)).mono ?_;rintro e' w3 ⟨rfl,hq⟩;rw [HE2.out];have HQ3:=aH hq;obtain ⟨ca,cb,cf,cr,ck,-⟩:=HC.out _ hq;unfold SubE.F at cf;obtain ⟨ca0,ca1,ca2,ca3,ca4⟩:=aS ca;obtain ⟨cb0,cb1,cb2,cb3,cb4⟩:=aS cb;clear ca cb;try rw [hmu] at ca1;clear hq))
    have HPZ:=HQ3;have HVV:Hid (subB b s t=false):=aH (by rw [HV.out.1];rfl);(try clear HCALL);(try clear HSS);(try clear HE1);(try clear HE2); (try clear HO);(try clear HL2);(try clear HLAW);go_loopg [9,13] 0 (fun gk v i wr=>v = .bool false/\i = .int .i64 0/\Hid (E.Ph b W1 ks ((s:Int)+t) wr));(case atStart=>exact ⟨rfl,rfl,HPZ⟩);(case round=>(obtain ⟨rfl,rfl,HPZ⟩:=hrel;obtain ⟨kz,hstz,hnz,hgz⟩:=HPZ.out;have HSZ:=aH hstz;have HNZ:=aH hnz;have HGZ:=aH hgz;have hkz:=hstz.k;clear hnz hgz;go_wp2_with (at_mapUpdate;refine dF _ rfl _ _ _ 89 rfl 42 3 4 arrP Tryz.underlying3 progN Tryz.underlying89 _ _ _ rfl hstz.memo (hstz.lt HEE.out) _ _ rfl wfs wft (by rw [HVV.out];rfl) ?_;intro w9 hm9 hg9;have HM9:=aH hm9;have HG9:=aH hg9;clear hm9 hg9);clear hstz;go_ret;refine ⟨?_,SubE.fin HEE.out HM.out HR.out HB1.out HSZ.out HNZ.out HGZ.out HM9.out HG9.out⟩;rw [HVV.out];rfl))
   ·go_wp2_with (first | (go_at_call 184;refine (HO.out _ HPH.out).mono ?_;rintro e' w1 ⟨rfl,hq⟩;have HQ1:=aH hq;obtain ⟨ca,cb,cf,cr,ck,-⟩:=HC.out _ hq;unfold SubE.F at cf;obtain ⟨ca0,ca1,ca2,ca3,ca4⟩:=aS ca;obtain ⟨cb0,cb1,cb2,cb3,cb4⟩:=aS cb;clear ca cb;try rw [hmu] at ca1;clear hq) | (go_at_call 209;refine (HSS.out _ _ (by first | exact Or.inl ⟨rfl,rfl⟩ | exact Or.inr ⟨rfl,rfl⟩) _ (by exact HQ1.out)).mono ?_;rintro e' w2 ⟨rfl,hq⟩;rw [HE1.out];have HQ2:=aH hq;obtain ⟨ca,cb,cf,cr,ck,-⟩:=HC.out _ hq;unfold SubE.F at cf;obtain ⟨ca0,ca1,ca2,ca3,ca4⟩:=aS ca;obtain ⟨cb0,cb1,cb2,cb3,cb4⟩:=aS cb;clear ca cb;try rw [hmu] at ca1;clear hq) | (go_at_call 209;refine (HSS.out _ _ (by first | exact Or.inl ⟨rfl,rfl⟩ | exact Or.inr ⟨rfl,rfl⟩) _ (by exact HQ2.out)).mono ?_;rintro e' w3 ⟨rfl,hq⟩;rw [HE2.out];have HQ3:=aH hq;obtain ⟨ca,cb,cf,cr,ck,-⟩:=HC.out _ hq;unfold SubE.F at cf;obtain ⟨ca0,ca1,ca2,ca3,ca4⟩:=aS ca;obtain ⟨cb0,cb1,cb2,cb3,cb4⟩:=aS cb;clear ca cb;try rw [hmu] at ca1;clear hq))
    have HPZ:=HQ3;have HVV:Hid (subB b s t=true):=aH (by rw [HV.out.1,List.length_eq_zero_iff.1 HF0.out];rfl);(try clear HCALL);(try clear HSS);(try clear HE1);(try clear HE2); (try clear HO);(try clear HL2);(try clear HLAW);go_loopg [9,13] 0 (fun gk v i wr=>v = .bool true/\i = .int .i64 0/\Hid (E.Ph b W1 ks ((s:Int)+t) wr));(case atStart=>exact ⟨rfl,rfl,HPZ⟩);(case round=>(obtain ⟨rfl,rfl,HPZ⟩:=hrel;have hq:=HPZ.out;obtain ⟨ca,cb,cf,cr,ck,-⟩:=HC.out _ hq;unfold SubE.F at cf;obtain ⟨ca0,ca1,ca2,ca3,ca4⟩:=aS ca;obtain ⟨cb0,cb1,cb2,cb3,cb4⟩:=aS cb;clear ca cb;have hf0:=HF0.out;have e0:¬((0:Int)<(ta.flds.length:Int)):=(by omega);clear hq;obtain ⟨kz,hstz,hnz,hgz⟩:=HPZ.out;have HSZ:=aH hstz;have HNZ:=aH hnz;have HGZ:=aH hgz;have hkz:=hstz.k;clear hnz hgz;go_wp2_with (at_mapUpdate;refine dF _ rfl _ _ _ 89 rfl 42 3 4 arrP Tryz.underlying3 progN Tryz.underlying89 _ _ _ rfl hstz.memo (hstz.lt HEE.out) _ _ rfl wfs wft (by rw [HVV.out];rfl) ?_;intro w9 hm9 hg9;have HM9:=aH hm9;have HG9:=aH hg9;clear hm9 hg9);clear hstz;go_ret;refine ⟨?_,SubE.fin HEE.out HM.out HR.out HB1.out HSZ.out HNZ.out HGZ.out HM9.out HG9.out⟩;rw [HVV.out];rfl))
theorem xCA (E:SubE) (b:Bdy) (HE:E.Ok b) (m:Nat) (HREC0:E.Rec b m) (s t:Nat) (hm:s+t<m+1) (hs:s<b.types.length) (ht:t<b.types.length) (W:World) (ks:List (Int × Int)) (h:E.St b W ks) (hmem:((s:Int),(t:Int))∉ks) (hcase:((b.types[s].kind == b.types[t].kind) && (b.types[s].mu == b.types[t].mu) && ((b.types[s].flds.length:Int) == (b.types[t].flds.length:Int)) && !(b.types[s].kind == 3))=true):
 Calls Tryz.prog 209 #[.int .i64 s,.int .i64 t,.pointer (some ⟨E.pk,0,none⟩),.pointer (some ⟨E.pl,0,none⟩),.pointer (some ⟨E.pr,0,none⟩),.pointer (some ⟨E.pf,0,none⟩)] W fun e' W'=>e' = .returned (.bool (subB b s t))/\E.Q b W ks s t W':=by
 have HREC:=aH HREC0;have HSB:=aH (pQ HE.ok.tyok hs ht);have HOKS:=aH (HE.ok.tyok s hs);have HOKT:=aH (HE.ok.tyok t ht);have hn:=HE.ok.ntyp;have hlen:=h.lt HE;have wfs:(Lit.int .i64 (s:Int)).wf=true:=WalkArith.wf_i64 (by omega);have wft:(Lit.int .i64 (t:Int)).wf=true:=WalkArith.wf_i64 (by omega);have x1:=h.k;have x2:=h.l;have x3:=h.r;have x4:=h.f;have hmemo:=h.memo;have HST:=aH h;have HEE:=aH HE;have hle:=HE.ty.le;have hbig:=HE.ty.big;have HMD:Hid (decide (((s:Int),(t:Int))∈ks)=false):=aH (by simp [hmem]);have HM:=aH hmem;obtain ⟨bb,oo,hA,hbb,hxs⟩:=HE.ty.sl.at_ hs;obtain ⟨b2,o2,hA2,hbb2,hxt⟩:=HE.ty.sl.at_ ht;have hAA:some (⟨bb,oo,none⟩:Addr)=some ⟨b2,o2,none⟩:=hA.symm.trans hA2;simp only [cK,Addr.mk.injEq,and_true] at hAA;obtain ⟨rfl,rfl⟩:=hAA;clear hA2 hbb2;obtain ⟨ta,hta⟩:∃x,b.types[s]=x:=⟨_,rfl⟩;obtain ⟨tb,htb⟩:∃x,b.types[t]=x:=⟨_,rfl⟩;rw [hta] at hxs HSB HOKS hcase;rw [htb] at hxt HSB HOKT hcase;obtain ⟨r0,r1,r2,r3,A2,c2,r4,r6,r7,r8⟩:=hxs;obtain ⟨q0,q1,q2,q3,B2,d2,q4,q6,q7,q8⟩:=hxt;have HFA:Hid (Slc 1 RInt E.w0 A2 c2 ta.flds):=aH ⟨r8,r6,r7⟩;have HFB:Hid (Slc 1 RInt E.w0 B2 d2 tb.flds):=aH ⟨q8,q6,q7⟩;have hb0:=h.low;replace r0:=cQ hb0 r0;replace r1:=cQ hb0 r1;replace r2:=cQ hb0 r2;replace r3:=cQ hb0 r3;replace r4:=cQ hb0 r4;replace q0:=cQ hb0 q0;replace q1:=cQ hb0 q1;replace q2:=cQ hb0 q2;replace q3:=cQ hb0 q3;replace q4:=cQ hb0 q4;rw [hA] at x2;clear r8 q8 hta htb hb0 h HE hmem;go_enter Tryz.func209,Tryz.ntmps209;go_wp2_with (at_lookup;refine eY _ rfl _ _ 89 rfl 42 3 4 arrP Tryz.underlying3 progN Tryz.underlying89 (eF _) _ _ _ rfl hmemo _ _ rfl wfs wft ?_;rw [bB HM.out,HMD.out])
 have hS:Below W.heap.size W W.drew:=(aZ _ _).drew;refine cZ (S:=fun X=>Below W.heap.size W X) [0,1,2,3,4,5,6,7,8,9,10,11] (by kernel_rfl) ?_;(iterate 8 (refine cY (v:=?_) ?_ hS ?_;rotate_left;(next=>(rintro X hX;have s0:=cQ hX x2;have u0:=cQ hX r0;have u1:=cQ hX r1;have u2:=cQ hX r2;have u3:=cQ hX r3;have u4:=cQ hX r4;have v0:=cQ hX q0;have v1:=cQ hX q1;have v2:=cQ hX q2;have v3:=cQ hX q3;have v4:=cQ hX q4;(try simp only [aK]);go_simp;rfl));simp only [aO]));have hS1:Below W.heap.size W (W.drew.alloc ty0):=aJ;have hS2:Below W.heap.size W ((W.drew.alloc ty0).alloc ty0):=aJ;refine iK [0,1,2,3,4,5,6,7,9,8,10,11] ty0 (by kernel_rfl) ?_ ?_ ?_ hS1 hS2 ?_
 ·intro a1 w1 K hK;(simp only [aO]);rw [bD (by rfl)];go_simp;exact hK
 ·intro a1 w1 K hK;(simp only [aO]);rw [bD (by rfl)];go_simp;exact hK
 ·exact fun _ _=>rfl
 intro ga gb hg;obtain ⟨hB1,ya,yb⟩:=nI W.drew ga gb ta tb A2 B2 c2 d2 hg;have hS3:Below W.heap.size W (((W.drew.alloc ty0).alloc ty0).setCells ga 0 (tyL ta A2 c2)):=dM (by rcases hg with h | h <;> (rw [h.1];simp)) _ _ _ hS2
 have tha:((W.drew.alloc ty0).alloc ty0).there ga 0 (tyL ta A2 c2).toArray.size:=by
  rcases hg with ⟨h,-⟩ | ⟨h,-⟩ <;> rw [h]
  ·exact World.there_alloc (dK _ _ _ _ 5 rfl (by simp)) _
  ·exact dK _ _ _ _ 5 (by simp) (by simp)
 have thb:((W.drew.alloc ty0).alloc ty0).there gb 0 (tyL tb B2 d2).toArray.size:=by
  rcases hg with ⟨-,h⟩ | ⟨-,h⟩ <;> rw [h]
  ·exact dK _ _ _ _ 5 (by simp) (by simp)
  ·exact World.there_alloc (dK _ _ _ _ 5 rfl (by simp)) _
 have hS4:Below W.heap.size W ((((W.drew.alloc ty0).alloc ty0).setCells ga 0 (tyL ta A2 c2)).setCells gb 0 (tyL tb B2 d2)):=hS.trans (hB1.mono (bA _));have hne:ga≠gb/\W.heap.size<=ga/\W.heap.size<=gb:=by rcases hg with ⟨rfl,rfl⟩ | ⟨rfl,rfl⟩ <;> simp
 have hML:=HST.out.memo.lt;have hM:E.M≠ga/\E.M≠gb:=by omega
 clear hg;have thc:=World.there_setCells thb ga 0 (tyL ta A2 c2);generalize (W.drew.alloc ty0).alloc ty0=W8 at *;have E9:∃W9,W8.setCells ga 0 (tyL ta A2 c2)=W9:=⟨_,rfl⟩;obtain ⟨W9,e9⟩:=E9;obtain ⟨W1,e1⟩:∃W1,W9.setCells gb 0 (tyL tb B2 d2)=W1:=⟨_,rfl⟩;rw [e9] at hB1 ya yb hS3 hS4 thc;rw [e1] at hB1 ya yb hS4;(refine cX (fun K1 hK1=>?_);simp only [aO];rw [bD (by rfl)]);refine wp_store_mid 104 (.tmp 11) (.tmp 27) rfl ga 0 (tyL ta A2 c2).toArray rfl rfl tha (by kernel_rfl) (by simp [tyL,Value.oneCell']) ?_;rw [List.toList_toArray,e9];refine hK1.out _ _ (fun _=>hS3) ?_;clear hK1;(refine cX (fun K1 hK1=>?_);simp only [aO];rw [bD (by rfl)]);refine wp_store_mid 104 (.tmp 12) (.tmp 31) rfl gb 0 (tyL tb B2 d2).toArray rfl rfl thc (by kernel_rfl) (by simp [tyL,Value.oneCell']) ?_;rw [List.toList_toArray,e1];refine hK1.out _ _ (fun _=>hS4) ?_;clear hK1;refine dI ?_;(simp only [aO]);obtain ⟨ya0,ya1,ya2,ya3,ya4⟩:=aS ya;obtain ⟨yb0,yb1,yb2,yb3,yb4⟩:=aS yb;have hst1:=HST.out.keep hS4;have HPH:=aH (SubE.Ph.start HST.out hS4 ((s:Int)+t));have HB1:=aH hS4;have HM1:=aH hM
 have HC:Hid (∀X,E.Ph b W1 ks ((s:Int)+t) X->(aD (tyL ta A2 c2) X ga)/\(aD (tyL tb B2 d2) X gb)/\X.cell? ⟨E.pf,0,none⟩=some E.F/\X.cell? ⟨E.pr,0,none⟩=some (.pointer (some ⟨E.r,0,none⟩))/\X.cell? ⟨E.pk,0,none⟩=some (.map (some E.M))/\Below E.w0.heap.size E.w0 X):=aH (fun X ⟨kx,h1,h2,h3⟩=>
  ⟨fun i v hi=>dR h3 (ya i v hi) (by simpa using Ne.symm HM1.out.1),fun i v hi=>dR h3 (yb i v hi) (by simpa using Ne.symm HM1.out.2),h1.f,h1.r,h1.k,h1.low⟩)
 have hbp:=HST.out.memo.lt;clear hS hS1 hS2 hS3 hS4 hB1 ya yb tha thb thc e9 e1 x1 x2 x3 x4 hmemo r0 r1 r2 r3 r4 q0 q1 q2 q3 q4 hM hML
 have HCALL:Hid (∀x y:Int,0<=x->0<=y->x+y<(s:Int)+t->x<(b.types.length:Int)->y<(b.types.length:Int)->∀X,E.Ph b W1 ks ((s:Int)+t) X->
  Calls Tryz.prog 209 #[.int .i64 x,.int .i64 y,.pointer (some ⟨E.pk,0,none⟩),.pointer (some ⟨E.pl,0,none⟩),.pointer (some ⟨E.pr,0,none⟩),.pointer (some ⟨E.pf,0,none⟩)] X fun e' X'=>e' = .returned (.bool (subB b x y))/\E.Ph b W1 ks ((s:Int)+t) X'):=aH (fun x y hx hy hxy hxl hyl X ⟨kx,h1,h2,h3⟩=>by
  obtain ⟨x,rfl⟩:=bI hx;obtain ⟨y,rfl⟩:=bI hy;refine (HREC.out x y (by omega) (by omega) (by omega) X kx h1).mono ?_;rintro e' X' ⟨rfl,hq⟩
  exact ⟨rfl,SubE.Ph.call h1 h2 h3 hq hxy⟩)
 clear HREC hn;obtain ⟨p1,hp1⟩:∃q,(ta.kind == tb.kind)=q:=⟨_,rfl⟩;obtain ⟨p2,hp2⟩:∃q,(ta.mu == tb.mu)=q:=⟨_,rfl⟩;obtain ⟨p3,hp3⟩:∃q,((ta.flds.length:Int) == (tb.flds.length:Int))=q:=⟨_,rfl⟩;obtain ⟨p4,hp4⟩:∃q,(ta.kind == 3)=q:=⟨_,rfl⟩;rw [hp1,hp2,hp3,hp4] at hcase;have HCASE:=aH hcase;clear hcase;have HP1:=aH hp1;have HP2:=aH hp2;have HP3:=aH hp3;have HP4:=aH hp4
 have HLAW:Hid (∀q:Bool,(p1=true->p2=true->p3=true->p4=true->q=(outB b.outl b.regions.length ta.reg tb.reg && subB b ta.elem tb.elem && (!ta.mu || subB b tb.elem ta.elem)))->(¬(p1=true/\p2=true/\p3=true/\p4=true)->q=(p1 && p2 && p3))->
  subB b s t=(q && (((ta.flds.drop 0).zip (tb.flds.drop 0)).all (fun p=>subB b p.1 p.2)))/\(q=true->ta.flds.length=tb.flds.length)):=aH (fun q h1 h2=>by
  rw [HSB.out];unfold subS;have g1:decide (ta.kind=tb.kind)=p1:=by rw [<- HP1.out];rfl
  have g2:decide (ta.mu=tb.mu)=p2:=by rw [<- HP2.out];cases ta.mu <;> cases tb.mu <;> rfl
  have g3:decide (ta.flds.length=tb.flds.length)=p3:=by rw [<- HP3.out,lM]
  have g4:decide (ta.kind≠3) = !p4:=by rw [<- HP4.out];by_cases h:ta.kind=3 <;> simp [h]
  have g5:p4=true->ta.flds=[]:=fun h=>(HOKS.out.1 (by rw [<- HP4.out] at h;simpa using h)).2.2
  rw [g1,g2,g3,g4,bZ,bZ];have g6:p3=true->ta.flds.length=tb.flds.length:=fun h=>by rw [<- g3] at h;simpa using h
  cases p1 <;> cases p2 <;> cases p3 <;> cases p4 <;> simp_all)
 clear HSB;have HR:Hid (0<=(s:Int)/\(s:Int)<(b.types.length:Int)/\0<=(t:Int)/\(t:Int)<(b.types.length:Int)):=aH ⟨by omega,by omega,by omega,by omega⟩
 have HO:Hid (∀X,E.Ph b W1 ks ((s:Int)+t) X->Calls Tryz.prog 184 #[.pointer (some ⟨E.r,0,none⟩),.int .i64 ta.reg,.int .i64 tb.reg] X fun e' X'=>e' = .returned (.bool (outB b.outl b.regions.length ta.reg tb.reg))/\E.Ph b W1 ks ((s:Int)+t) X'):=aH (fun X hX=>by
  refine (kC b.outl b.regions.length ta.reg tb.reg E.r X (HEE.out.rel.keep (HC.out X hX).2.2.2.2.2) HEE.out.ok.pairs (by have:=HEE.out.ok.nreg;omega) HEE.out.ok.nout).mono ?_;rintro e' X' ⟨rfl,hb⟩
  exact ⟨rfl,hX.keep hb⟩)
 obtain ⟨z1,z2,z3,z4⟩:W1.cell? ⟨E.pf,0,none⟩=some E.F/\W1.cell? ⟨E.pr,0,none⟩=some (.pointer (some ⟨E.r,0,none⟩))/\W1.cell? ⟨E.pk,0,none⟩=some (.map (some E.M))/\True:=⟨hst1.f,hst1.r,hst1.k,trivial⟩;clear hst1 z4;unfold SubE.F at z1;have hc:=HCASE.out;clear HCASE;have hall:¬(p1=true/\p2=true/\p3=true/\p4=true):=by rintro ⟨rfl,rfl,rfl,rfl⟩;simp at hc
 have HL3:Hid (∀q:Bool,q=(p1 && p2 && p3)->subB b s t=(q && (((ta.flds.drop 0).zip (tb.flds.drop 0)).all (fun p=>subB b p.1 p.2)))/\(q=true->ta.flds.length=tb.flds.length)):=aH (fun q hq=>HLAW.out q (fun h1 h2 h3 h4=>absurd ⟨h1,h2,h3,h4⟩ hall) (fun _=>hq));clear HLAW HO HP1 HP2 HP3 HP4;have HPZ:=HPH;obtain ⟨rfl,rfl,rfl,rfl⟩:p1=true/\p2=true/\p3=true/\p4=false:=by revert hc;cases p1 <;> cases p2 <;> cases p3 <;> cases p4 <;> simp
 clear hc;have HV:=aH (HL3.out true rfl);have hln:=HV.out.2 rfl;have HLN:=aH hln;clear hall HL3 hln;go_wp2_with fail
 go_loopg [9,13] ta.flds.length (fun gk v i wr=>∃(j:Nat) (q:Bool),gk=ta.flds.length - j/\j<=ta.flds.length/\v = .bool q/\i = .int .i64 j/\Hid (E.Ph b W1 ks ((s:Int)+t) wr)/\Hid (subB b s t=(q && ((ta.flds.drop j).zip (tb.flds.drop j)).all (fun p=>subB b p.1 p.2))))
 case atStart=>exact ⟨0,true,by omega,by omega,rfl,rfl,HPZ,aH HV.out.1⟩
 case round=>
  clear HPZ HV;obtain ⟨j,q,hgj,hj,rfl,rfl,HPZ,HV⟩:=hrel;have hq:=HPZ.out;obtain ⟨ca,cb,cf,cr,ck,-⟩:=HC.out _ hq;unfold SubE.F at cf;obtain ⟨ca0,ca1,ca2,ca3,ca4⟩:=aS ca;obtain ⟨cb0,cb1,cb2,cb3,cb4⟩:=aS cb;clear ca cb;clear hq;cases q
  ·have HVV:Hid (subB b s t=false):=aH (by rw [HV.out];rfl);clear HCALL HOKS HOKT;obtain ⟨kz,hstz,hnz,hgz⟩:=HPZ.out;have HSZ:=aH hstz;have HNZ:=aH hnz;have HGZ:=aH hgz;have hkz:=hstz.k;clear hnz hgz;go_wp2_with (at_mapUpdate;refine dF _ rfl _ _ _ 89 rfl 42 3 4 arrP Tryz.underlying3 progN Tryz.underlying89 _ _ _ rfl hstz.memo (hstz.lt HEE.out) _ _ rfl wfs wft (by rw [HVV.out];rfl) ?_;intro w9 hm9 hg9;have HM9:=aH hm9;have HG9:=aH hg9;clear hm9 hg9);clear hstz;go_ret;refine ⟨?_,SubE.fin HEE.out HM.out HR.out HB1.out HSZ.out HNZ.out HGZ.out HM9.out HG9.out⟩;rw [HVV.out];rfl
  ·by_cases hlt:j<ta.flds.length
   ·have hlt2:j<tb.flds.length:=by have:=HLN.out;omega
    obtain ⟨ba,oa,rfl,hba,hxa⟩:=HFA.out.sl.at_ hlt;obtain ⟨b8,o8,rfl,hb8,hxb⟩:=HFB.out.sl.at_ hlt2;have h5:=HOKS.out.2 ta.flds[j] (bO hlt);have h6:=HOKT.out.2 tb.flds[j] (bO hlt2);have HV2:Hid (subB b s t=(subB b ta.flds[j] tb.flds[j] && ((ta.flds.drop (j+1)).zip (tb.flds.drop (j+1))).all (fun p=>subB b p.1 p.2))):=aH (by rw [HV.out,dA hlt,dA hlt2,List.zip_cons_cons,cD,Bool.true_and]);obtain ⟨x,hxx⟩:∃x,ta.flds[j]=x:=⟨_,rfl⟩;obtain ⟨y,hyy⟩:∃y,tb.flds[j]=y:=⟨_,rfl⟩;rw [hxx] at hxa h5 HV2;rw [hyy] at hxb h6 HV2;have xa:E.w0.cell? ⟨ba,oa+j,none⟩=some (.int .i64 x):=(by simpa [RInt] using hxa);have xb:E.w0.cell? ⟨b8,o8+j,none⟩=some (.int .i64 y):=(by simpa [RInt] using hxb);have HCX:=aH (HCALL.out x y h5.1 h6.1 (by omega) (by omega) (by omega));have XA:=aH xa;have XB:=aH xb;clear hxa hxb h5 h6 hxx hyy HV HCALL HOKS HOKT xa xb;go_wp2_with fail
    have hS:E.Ph b W1 ks ((s:Int)+t) wr.drew:=HPZ.out.keep ((aZ _ _).drew);clear ca0 ca1 ca2 ca3 ca4 cb0 cb1 cb2 cb3 cb4 cf cr ck;refine cZ (S:=fun X=>E.Ph b W1 ks ((s:Int)+t) X) [0,1,2,3,4,5,6,7,8,9,10,11,12] (by kernel_rfl) ?_;(iterate 11 (refine cY (v:=?_) ?_ hS ?_;rotate_left;(next=>(rintro X hX;obtain ⟨da,db,df,-,-,dl⟩:=HC.out X hX;unfold SubE.F at df;have s4:=da 4 _ rfl;have u4:=db 4 _ rfl;have v1:=cQ dl XA.out;have v2:=cQ dl XB.out;clear da db;(try simp only [aK]);go_simp;rfl));simp only [aO]));(refine cX (fun K1 hK1=>?_);simp only [aO];rw [bD (by rfl)];go_simp);refine (HCX.out _ hS).mono ?_;rintro e' w2 ⟨rfl,hq⟩;refine hK1.out _ _ (fun _=>hq) ?_;have HQ:=aH hq;replace hS:=hq;clear hK1 hq;((refine cY (v:=?_) ?_ hS ?_;rotate_left;(next=>(rintro X -;(try simp only [aK]);go_simp;rfl));simp only [aO]))
    refine dI ?_;go_wp2_with fail
    go_roundg (ta.flds.length - (j+1))
    case measure=>omega
    case rel=>exact ⟨j+1,subB b x y,rfl,by omega,rfl,by go_num,HQ,HV2⟩
   ·have HVV:Hid (subB b s t=true):=aH (by rw [HV.out,bG (by omega)];rfl);have e0:¬((j:Int)<(ta.flds.length:Int)):=(by omega);clear HCALL HOKS HOKT;obtain ⟨kz,hstz,hnz,hgz⟩:=HPZ.out;have HSZ:=aH hstz;have HNZ:=aH hnz;have HGZ:=aH hgz;have hkz:=hstz.k;clear hnz hgz;go_wp2_with (at_mapUpdate;refine dF _ rfl _ _ _ 89 rfl 42 3 4 arrP Tryz.underlying3 progN Tryz.underlying89 _ _ _ rfl hstz.memo (hstz.lt HEE.out) _ _ rfl wfs wft (by rw [HVV.out];rfl) ?_;intro w9 hm9 hg9;have HM9:=aH hm9;have HG9:=aH hg9;clear hm9 hg9);clear hstz;go_ret;refine ⟨?_,SubE.fin HEE.out HM.out HR.out HB1.out HSZ.out HNZ.out HGZ.out HM9.out HG9.out⟩;rw [HVV.out];rfl
end
end Go.Proofs.YtkaigkfbkpinlaaGreatDoor
