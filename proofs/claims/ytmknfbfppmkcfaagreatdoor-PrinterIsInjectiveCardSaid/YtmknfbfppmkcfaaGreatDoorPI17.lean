/-
  Parts of the proof: Y4 Y20 Y21 Y22 Y23 A3.
-/
import Derived.Test.YtmknfbfppmkcfaaGreatDoorPI0
import Derived.Test.YtmknfbfppmkcfaaGreatDoorPI13
import Derived.Test.YtmknfbfppmkcfaaGreatDoorPI1
import Derived.Test.YtmknfbfppmkcfaaGreatDoorPI3
import Derived.Test.YtmknfbfppmkcfaaGreatDoorPI2
import Derived.Laws.IdiomStrings
namespace Go.Proofs.YtmknfbfppmkcfaaGreatDoor
set_option maxRecDepth 100000
set_option maxHeartbeats 16000000
section
open Go Go.RowKit
def fitJ (x:Pj):Prop:= -9223372036854775808<=x.field/\x.field<=9223372036854775807
abbrev Sm (l:List UInt8):Prop:=l.length<=140737488355328
theorem nm_at {ls:List Lc} {k:Nat} (h:k<ls.length):nmP ls (k:Int)=bl (ls[k]).name:=by
 unfold nmP;rw [bW,bD h];rfl
theorem ba_l (a:List UInt8) (b:Array UInt8):(⟨a.toArray⟩:ByteArray) ++ ⟨b⟩=⟨(a ++ b.toList).toArray⟩:=ba_app' _ _
theorem ba_r (a:Array UInt8) (b:List UInt8):(⟨a⟩:ByteArray) ++ ⟨b.toArray⟩=⟨(a.toList ++ b).toArray⟩:=ba_app' _ _
theorem kA {a b c:List UInt8} (h:a ++ b=a ++ c):b=c:=List.append_cancel_left h
def Stop (cl:UInt8->Bool) (r:List UInt8):Prop:=∀c t,r=c :: t->cl c=false
theorem Stop.cons {cl:UInt8->Bool} {c:UInt8} (h:cl c=false) (t:List UInt8):Stop cl (c :: t):=fun c' t' e=>by
 cases e;exact h
theorem Stop.nil {cl:UInt8->Bool}:Stop cl []:=fun c t e=>by cases e
theorem mD {cl:UInt8->Bool}:∀{x y r s:List UInt8},x.all cl=true->y.all cl=true->Stop cl r->Stop cl s->x ++ r=y ++ s->x=y/\r=s
 | [],[],_,_,_,_,_,_,h=>⟨rfl,h⟩
 | [],b :: y,r,s,_,hy,hr,_,h=>by
   simp only [cB,bQ] at hy;have:=hr b (y ++ s) (by simpa using h);rw [hy.1] at this;cases this
 | a :: x,[],r,s,hx,_,_,hs,h=>by
   simp only [cB,bQ] at hx;have:=hs a (x ++ r) (by simpa using h.symm);rw [hx.1] at this;cases this
 | a :: x,b :: y,r,s,hx,hy,hr,hs,h=>by
   simp only [cB,bQ] at hx hy;simp only [List.cons_append,List.cons.injEq] at h;obtain ⟨rfl,h⟩:=h;obtain ⟨rfl,e⟩:=mD hx.2 hy.2 hr hs h;exact ⟨rfl,e⟩
theorem zU (u:Nat):(Lib.decDigits u).all isDig=true:=by
 induction u using Nat.strongRecOn with
 | _ u ih=>
   have hd:∀k,k<10->isDig (UInt8.ofNat (48+k))=true:=fun k hk=>by
    unfold isDig;rw [decide_eq_true_eq,UInt8.toNat_ofNat'];omega
   by_cases h:u<10
   ·rw [kV h,cB,hd u h];rfl
   ·rw [zV h,List.all_append,ih (u / 10) (by omega),cB,hd (u % 10) (by omega)];rfl
def valD (l:List UInt8):Nat:=l.foldl (fun a c=>a * 10+(c.toNat - 48)) 0
theorem wN (u:Nat):valD (Lib.decDigits u)=u:=by
 have hd:∀k,k<10->(UInt8.ofNat (48+k)).toNat - 48=k:=fun k hk=>by rw [UInt8.toNat_ofNat'];omega
 induction u using Nat.strongRecOn with
 | _ u ih=>
   by_cases h:u<10
   ·rw [kV h];simp only [valD,List.foldl_cons,List.foldl_nil,hd u h];omega
   ·rw [zV h];have:=ih (u / 10) (by omega);unfold valD at this ⊢;rw [List.foldl_append,this];simp only [List.foldl_cons,List.foldl_nil,hd (u % 10) (by omega)];omega
theorem dd_ne (u:Nat):∃c t,Lib.decDigits u=c :: t/\isDig c=true:=by
 have h:=zU u;cases e:Lib.decDigits u with
 | nil=>
   exfalso;by_cases hu:u<10
   ·rw [kV hu] at e;cases e
   ·rw [zV hu] at e;simp at e
 | cons c t=>rw [e] at h;simp only [cB,bQ] at h;exact ⟨c,t,rfl,h.1⟩
theorem fU {n:Int} (h:0<=n):Lib.itoa n=Lib.decDigits n.toNat:=by unfold Lib.itoa;rw [aZ (by omega)]
theorem iK {n:Int} (h:n<0):Lib.itoa n=45 :: Lib.decDigits n.natAbs:=by unfold Lib.itoa;rw [bA h]
theorem oO {n m:Int} {r s:List UInt8} (hr:Stop isDig r) (hs:Stop isDig s) (h:Lib.itoa n ++ r=Lib.itoa m ++ s):n=m/\r=s:=by
 have key:∀u v:Nat,Lib.decDigits u ++ r=Lib.decDigits v ++ s->u=v/\r=s:=fun u v e=>by
  obtain ⟨e1,e2⟩:=mD (zU u) (zU v) hr hs e;exact ⟨by rw [<- wN u,e1,wN],e2⟩
 rcases Int.lt_or_le n 0 with hn | hn <;> rcases Int.lt_or_le m 0 with hm | hm
 ·rw [iK hn,iK hm] at h;simp only [List.cons_append,List.cons.injEq,true_and] at h;obtain ⟨a,b⟩:=key _ _ h;exact ⟨by omega,b⟩
 ·rw [iK hn,fU hm] at h;obtain ⟨c,t,e,hc⟩:=dd_ne m.toNat;rw [e] at h;simp only [List.cons_append,List.cons.injEq] at h;rw [<- h.1] at hc;exact absurd hc (by decide)
 ·rw [fU hn,iK hm] at h;obtain ⟨c,t,e,hc⟩:=dd_ne n.toNat;rw [e] at h;simp only [List.cons_append,List.cons.injEq] at h;rw [h.1] at hc;exact absurd hc (by decide)
 ·rw [fU hn,fU hm] at h;obtain ⟨a,b⟩:=key _ _ h;exact ⟨by omega,b⟩
theorem gI {c:UInt8} {n m:Int} {r s:List UInt8} (hr:Stop isDig r) (hs:Stop isDig s) (h:idxP c n ++ r=idxP c m ++ s):n=m/\r=s:=by
 unfold idxP at h;simp only [List.cons_append,List.cons.injEq,true_and] at h;exact oO hr hs h
def idc (c:UInt8):Bool:=isLet c || isDig c
theorem qJ {b:ByteArray} (h:isIdent b=true):(bl b).all idc=true:=by
 unfold isIdent at h;unfold bl;cases e:b.data.toList with
 | nil=>rfl
 | cons c r=>
   rw [e] at h;simp only [lX,bQ] at h;simp only [cB,bQ,idc,h.1.1,Bool.true_or,true_and];exact h.1.2
theorem xIP {a b:ByteArray} (h:bl a=bl b):a=b:=by rw [mI a,mI b,h]
theorem fV {a b:ByteArray} {r s:List UInt8} (ha:isIdent a=true) (hb:isIdent b=true) (hr:Stop idc r) (hs:Stop idc s) (h:bl a ++ r=bl b ++ s):a=b/\r=s:=by
 obtain ⟨e1,e2⟩:=mD (qJ ha) (qJ hb) hr hs h;exact ⟨xIP e1,e2⟩
def Cut {α : Type} (f : α -> List UInt8) (ok : α -> Prop) (st:List UInt8->Prop):Prop:=
 ∀x y r s,ok x->ok y->st r->st s->f x ++ r=f y ++ s->x=y/\r=s
theorem oS:comP []=[]:=rfl
theorem sA (x:List UInt8):comP [x]=x:=by simp [comP,Lib.join,List.intercalate]
theorem xGP (x y:List UInt8) (l:List (List UInt8)):comP (x :: y :: l)=x ++ (44 :: 32 :: comP (y :: l)):=by
 simp [comP,Lib.join,List.intercalate]
def tailP:List (List UInt8)->List UInt8
 | []=>[]
 | y :: l=>44 :: 32 :: comP (y :: l)
theorem gS (x:List UInt8) (l:List (List UInt8)):comP (x :: l)=x ++ tailP l:=by
 cases l with
 | nil=>rw [sA];simp [tailP]
 | cons y l=>exact xGP x y l
def NoCom (r:List UInt8):Prop:=∀t,r≠44 :: t
theorem tX {α : Type} {f : α -> List UInt8} {ok : α -> Prop} {st:List UInt8->Prop} (hc:Cut f ok st) (h44:∀t,st (44 :: t)):
 ∀(xs ys:List α) (r s:List UInt8),(∀x∈xs,ok x)->(∀y∈ys,ok y)->st r->st s->NoCom r->NoCom s->tailP (xs.map f) ++ r=tailP (ys.map f) ++ s->xs=ys/\r=s
 | [],[],_,_,_,_,_,_,_,_,h=>⟨rfl,h⟩
 | [],y :: ys,r,s,_,_,_,_,hr,_,h=>by
   exact absurd (by simpa [tailP] using h) (hr (32 :: (comP (f y :: ys.map f) ++ s)))
 | x :: xs,[],r,s,_,_,_,_,_,hs,h=>by
   exact absurd (by simpa [tailP] using h.symm) (hs (32 :: (comP (f x :: xs.map f) ++ r)))
 | x :: xs,y :: ys,r,s,hx,hy,sr,ss,hr,hs,h=>by
   simp only [cJ,tailP,List.cons_append,List.cons.injEq,true_and] at h;rw [gS,gS,bM,bM] at h
   have st_of:∀(l:List α) (q:List UInt8),st q->st (tailP (l.map f) ++ q):=fun l q hq=>by
    cases l with
    | nil=>simpa [tailP] using hq
    | cons z l=>exact h44 _
   obtain ⟨rfl,h2⟩:=hc x y _ _ (hx x (by simp)) (hy y (by simp)) (st_of xs r sr) (st_of ys s ss) h;obtain ⟨rfl,h3⟩:=tX hc h44 xs ys r s (fun z hz=>hx z (by simp [hz])) (fun z hz=>hy z (by simp [hz])) sr ss hr hs h2;exact ⟨rfl,h3⟩
theorem oP {α : Type} {f : α -> List UInt8} {ok : α -> Prop} {st:List UInt8->Prop} (hc:Cut f ok st) (h44:∀t,st (44 :: t))
 (xs ys:List α) (r s:List UInt8) (hx:∀x∈xs,ok x) (hy:∀y∈ys,ok y) (sr:st r) (ss:st s) (hr:NoCom r) (hs:NoCom s)
 (h1:∀x t,ok x->f x ++ t≠r) (h2:∀x t,ok x->f x ++ t≠s)
 (h:comP (xs.map f) ++ r=comP (ys.map f) ++ s):xs=ys/\r=s:=by
 cases xs with
 | nil=>
   cases ys with
   | nil=>exact ⟨rfl,by simpa [oS] using h⟩
   | cons y ys=>
     rw [cJ,gS,bM] at h;exact absurd (by simpa [oS] using h.symm) (h1 y _ (hy y (by simp)))
 | cons x xs=>
   cases ys with
   | nil=>
     rw [cJ,gS,bM] at h;exact absurd (by simpa [oS] using h) (h2 x _ (hx x (by simp)))
   | cons y ys=>
     refine tX hc h44 (x :: xs) (y :: ys) r s hx hy sr ss hr hs ?_;simp only [cJ,tailP,List.cons_append];simp only [cJ] at h;rw [h]
theorem rY {α : Type} {f:Nat-> α -> List UInt8} {ok : α -> Prop} (hc:∀i x y r s,ok x->ok y->f i x ++ r=f i y ++ s->x=y/\r=s):
 ∀(xs ys:List α) (i:Nat) (r s:List UInt8),(∀x∈xs,ok x)->(∀y∈ys,ok y)->(∀i x t,f i x ++ t≠r)->(∀i x t,f i x ++ t≠s)->
  numP f i xs ++ r=numP f i ys ++ s->xs=ys/\r=s
 | [],[],_,_,_,_,_,_,_,h=>⟨rfl,h⟩
 | [],y :: ys,i,r,s,_,_,h1,_,h=>by
   rw [dR,bM] at h;exact absurd (by simpa [numP] using h.symm) (h1 i y _)
 | x :: xs,[],i,r,s,_,_,_,h2,h=>by
   rw [dR,bM] at h;exact absurd (by simpa [numP] using h) (h2 i x _)
 | x :: xs,y :: ys,i,r,s,hx,hy,h1,h2,h=>by
   rw [dR,dR,bM,bM] at h;obtain ⟨rfl,h3⟩:=hc i x y _ _ (hx x (by simp)) (hy y (by simp)) h;obtain ⟨rfl,h4⟩:=rY hc xs ys (i+1) r s (fun z hz=>hx z (by simp [hz])) (fun z hz=>hy z (by simp [hz])) h1 h2 h3;exact ⟨rfl,h4⟩
theorem tY {α : Type} {f : α -> List UInt8} {ok : α -> Prop} (hc:∀x y r s,ok x->ok y->f x ++ r=f y ++ s->x=y/\r=s):
 ∀(xs ys:List α) (r s:List UInt8),(∀x∈xs,ok x)->(∀y∈ys,ok y)->(∀x t,ok x->f x ++ t≠r)->(∀x t,ok x->f x ++ t≠s)->
  xs.flatMap f ++ r=ys.flatMap f ++ s->xs=ys/\r=s
 | [],[],_,_,_,_,_,_,h=>⟨rfl,h⟩
 | [],y :: ys,r,s,_,hy,h1,_,h=>by
   rw [List.flatMap_cons,bM] at h;exact absurd (by simpa using h.symm) (h1 y _ (hy y (by simp)))
 | x :: xs,[],r,s,hx,_,_,h2,h=>by
   rw [List.flatMap_cons,bM] at h;exact absurd (by simpa using h) (h2 x _ (hx x (by simp)))
 | x :: xs,y :: ys,r,s,hx,hy,h1,h2,h=>by
   rw [List.flatMap_cons,List.flatMap_cons,bM,bM] at h;obtain ⟨rfl,h3⟩:=hc x y _ _ (hx x (by simp)) (hy y (by simp)) h;obtain ⟨rfl,h4⟩:=tY hc xs ys r s (fun z hz=>hx z (by simp [hz])) (fun z hz=>hy z (by simp [hz])) h1 h2 h3;exact ⟨rfl,h4⟩
def inc (c:UInt8):Bool:=idc c || decide (c=46)
abbrev StI (r:List UInt8):Prop:=Stop inc r
theorem StI.idc {r:List UInt8} (h:StI r):Stop idc r:=fun c t e=>by
 have:=h c t e;simp only [inc,Bool.or_eq_false_iff] at this;exact this.1
theorem StI.dig {r:List UInt8} (h:StI r):Stop isDig r:=fun c t e=>by
 have:=h.idc c t e;simp only [Go.Proofs.YtmknfbfppmkcfaaGreatDoor.idc,Bool.or_eq_false_iff] at this;exact this.2
theorem StI.dot {r:List UInt8} (h:StI r) (t:List UInt8):r≠46 :: t:=fun e=>by
 have:=h 46 t e;exact absurd this (by decide)
theorem sti {c:UInt8} {t:List UInt8} (h:inc c=false):StI (c :: t):=Stop.cons h t
structure NmLs (ls:List Lc):Prop where
 id:∀(i:Nat) l,ls[i]?=some l->isIdent l.name=true
 inj:∀(i j:Nat) a b,ls[i]?=some a->ls[j]?=some b->a.name=b.name->i=j
structure NmRs (rs:List ByteArray):Prop where
 id:∀(i:Nat) l,rs[i]?=some l->isIdent l=true
 inj:∀(i j:Nat) a b,rs[i]?=some a->rs[j]?=some b->a=b->i=j
theorem xIK {ls:List Lc} (H:NmLs ls) {i j:Int} {r s:List UInt8} (hi:okI ls.length i) (hj:okI ls.length j) (hr:StI r) (hs:StI s) (h:nmP ls i ++ r=nmP ls j ++ s):i=j/\r=s:=by
 have ei:=bD (l:=ls) (i:=i.toNat) (by have:=hi.1;have:=hi.2;omega);have ej:=bD (l:=ls) (i:=j.toNat) (by have:=hj.1;have:=hj.2;omega);unfold nmP at h;rw [ei,ej] at h;simp only [Option.map_some,Option.getD_some] at h;obtain ⟨e1,e2⟩:=fV (H.id _ _ ei) (H.id _ _ ej) hr.idc hs.idc h;have:=H.inj _ _ _ _ ei ej e1;have:=hi.1;have:=hj.1;exact ⟨by omega,e2⟩
theorem zW {rs:List ByteArray} (H:NmRs rs) {i j:Int} {r s:List UInt8} (hi:okI rs.length i) (hj:okI rs.length j) (hr:StI r) (hs:StI s) (h:rgP rs i ++ r=rgP rs j ++ s):i=j/\r=s:=by
 have ei:=bD (l:=rs) (i:=i.toNat) (by have:=hi.1;have:=hi.2;omega);have ej:=bD (l:=rs) (i:=j.toNat) (by have:=hj.1;have:=hj.2;omega);unfold rgP at h;rw [ei,ej] at h;simp only [Option.map_some,Option.getD_some] at h;obtain ⟨e1,e2⟩:=fV (H.id _ _ ei) (H.id _ _ ej) hr.idc hs.idc h;have:=H.inj _ _ _ _ ei ej e1;have:=hi.1;have:=hj.1;exact ⟨by omega,e2⟩
def okJ (x:Pj):Prop:=(x.kind=0/\x.field=0)\/(x.kind=1/\0<=x.field)
theorem xIJ {x y:Pj} {r s:List UInt8} (hx:okJ x) (hy:okJ y) (hr:Stop isDig r) (hs:Stop isDig s) (h:pjP x ++ r=pjP y ++ s):x=y/\r=s:=by
 obtain ⟨k,f⟩:=x;obtain ⟨k',f'⟩:=y
 have nostar:∀(n:Int) (t u:List UInt8),0<=n->Lib.itoa n ++ t≠42 :: u:=fun n t u hn e=>by
  obtain ⟨c,t',e',hc⟩:=dd_ne n.toNat;rw [fU hn,e'] at e;simp only [List.cons_append,List.cons.injEq] at e;rw [e.1] at hc;exact absurd hc (by decide)
 simp only [okJ] at hx hy;rcases hx with ⟨rfl,rfl⟩ | ⟨rfl,hx⟩ <;> rcases hy with ⟨rfl,rfl⟩ | ⟨rfl,hy⟩ <;> simp only [pjP,if_true,if_false,List.cons_append,List.nil_append,List.cons.injEq,true_and,Int.one_ne_zero] at h
 ·exact ⟨rfl,h⟩
 ·exact absurd h.symm (nostar _ _ _ hy)
 ·exact absurd h (nostar _ _ _ hx)
 ·obtain ⟨rfl,e⟩:=oO hr hs h;exact ⟨rfl,e⟩
theorem tB (x:Pj):∃t,pjP x=46 :: t:=by unfold pjP;split <;> exact ⟨_,rfl⟩
theorem zY:∀{xs ys:List Pj} {r s:List UInt8},(∀x∈xs,okJ x)->(∀y∈ys,okJ y)->StI r->StI s->pjsP xs ++ r=pjsP ys ++ s->xs=ys/\r=s
 | [],[],_,_,_,_,_,_,h=>⟨rfl,h⟩
 | [],y :: ys,r,s,_,_,hr,_,h=>by
   obtain ⟨t,e⟩:=tB y;simp only [pjsP,List.flatMap_cons,List.flatMap_nil,List.nil_append,e,List.cons_append] at h;exact absurd h (hr.dot _)
 | x :: xs,[],r,s,_,_,_,hs,h=>by
   obtain ⟨t,e⟩:=tB x;simp only [pjsP,List.flatMap_cons,List.flatMap_nil,List.nil_append,e,List.cons_append] at h;exact absurd h.symm (hs.dot _)
 | x :: xs,y :: ys,r,s,hx,hy,hr,hs,h=>by
   have st_of:∀(l:List Pj) (q:List UInt8),StI q->Stop isDig (pjsP l ++ q):=fun l q hq=>by
    cases l with
    | nil=>simpa [pjsP] using hq.dig
    | cons z l=>
      obtain ⟨t,e⟩:=tB z;simp only [pjsP,List.flatMap_cons,e,List.cons_append];exact Stop.cons (by decide) _
   simp only [pjsP,List.flatMap_cons,bM] at h;obtain ⟨rfl,h2⟩:=xIJ (hx x (by simp)) (hy y (by simp)) (st_of xs r hr) (st_of ys s hs) h;obtain ⟨rfl,h3⟩:=zY (fun z hz=>hx z (by simp [hz])) (fun z hz=>hy z (by simp [hz])) hr hs h2;exact ⟨rfl,h3⟩
structure OkPl (ls:List Lc) (p:Plc):Prop where
 loc:okI ls.length p.loc
 pj:∀x∈p.proj,okJ x
theorem fF {ls:List Lc} (H:NmLs ls) {p q:Plc} {r s:List UInt8} (hp:OkPl ls p) (hq:OkPl ls q) (hr:StI r) (hs:StI s) (h:placeP ls p ++ r=placeP ls q ++ s):p=q/\r=s:=by
 obtain ⟨i,ps⟩:=p;obtain ⟨j,qs⟩:=q;simp only [placeP,List.cons_append,bM,List.cons.injEq,true_and] at h;have ei:=bD (l:=ls) (i:=i.toNat) (by have:=hp.loc.1;have:=hp.loc.2;simp only at *;omega);have ej:=bD (l:=ls) (i:=j.toNat) (by have:=hq.loc.1;have:=hq.loc.2;simp only at *;omega)
 have st_of:∀(l:List Pj) (q:List UInt8),StI q->Stop idc (pjsP l ++ q):=fun l q hq=>by
  cases l with
  | nil=>simpa [pjsP] using hq.idc
  | cons z l=>
    obtain ⟨t,e⟩:=tB z;simp only [pjsP,List.flatMap_cons,e,List.cons_append];exact Stop.cons (by decide) _
 unfold nmP at h;rw [ei,ej] at h;simp only [Option.map_some,Option.getD_some] at h;obtain ⟨e1,e2⟩:=fV (H.id _ _ ei) (H.id _ _ ej) (st_of ps r hr) (st_of qs s hs) h;have e3:=H.inj _ _ _ _ ei ej e1;obtain ⟨rfl,e4⟩:=zY hp.pj hq.pj hr hs e2;have:=hp.loc.1;have:=hq.loc.1;simp only at *;obtain rfl:i=j:=by omega
 exact ⟨rfl,e4⟩
structure OkOp (ls:List Lc) (o:Opd):Prop where
 kind:0<=o.kind/\o.kind<=4
 n:o.kind≠2->o.kind≠3->o.n=0
 zero:1<o.kind->o.place=⟨0,[]⟩
 bool:o.kind=3->o.n=0\/o.n=1
 place:o.kind<=1->OkPl ls o.place
 len:o.place.proj.length<=32
def keyO:List UInt8->Int
 | 99 :: _=>0
 | 109 :: _=>1
 | 116 :: _=>3
 | 102 :: _=>3
 | 117 :: _=>4
 | _=>2
theorem qK {c:UInt8} (h:isDig c=true):c=48\/c=49\/c=50\/c=51\/c=52\/c=53\/c=54\/c=55\/c=56\/c=57:=by
 unfold isDig at h;rw [decide_eq_true_eq] at h;simp only [<- UInt8.toNat_inj];simp only [UInt8.reduceToNat];omega
theorem lV (n:Int):∃c t,Lib.itoa n=c :: t/\(c=45\/isDig c=true):=by
 rcases Int.lt_or_le n 0 with hn | hn
 ·exact ⟨45,_,iK hn,.inl rfl⟩
 ·obtain ⟨c,t,e,hc⟩:=dd_ne n.toNat;exact ⟨c,t,by rw [fU hn,e],.inr hc⟩
theorem oJ {ls:List Lc} {o:Opd} (h:OkOp ls o) (r:List UInt8):keyO (opdP ls o ++ r)=o.kind:=by
 obtain ⟨k,p,n⟩:=o;have hk:=h.kind;simp only at hk;obtain rfl | rfl | rfl | rfl | rfl:k=0\/k=1\/k=2\/k=3\/k=4:=by omega
 ·rfl
 ·rfl
 ·show keyO (Lib.itoa n ++ r)=2;obtain ⟨c,t,e,hc⟩:=lV n;rw [e];rcases hc with rfl | hc
  ·rfl
  ·rcases qK hc with rfl | rfl | rfl | rfl | rfl | rfl | rfl | rfl | rfl | rfl <;> rfl
 ·show keyO (boolP (decide (n=1)) ++ r)=3;cases decide (n=1) <;> rfl
 ·rfl
theorem xGM {ls:List Lc} (H:NmLs ls) {x y:Opd} {r s:List UInt8} (hx:OkOp ls x) (hy:OkOp ls y) (hr:StI r) (hs:StI s) (h:opdP ls x ++ r=opdP ls y ++ s):x=y/\r=s:=by
 have hk:x.kind=y.kind:=by rw [<- oJ hx r,<- oJ hy s,h]
 obtain ⟨k,p,n⟩:=x;obtain ⟨k',p',n'⟩:=y;obtain rfl:k=k':=hk;have hb:=hx.kind;simp only at hb;obtain rfl | rfl | rfl | rfl | rfl:k=0\/k=1\/k=2\/k=3\/k=4:=by omega
 ·have a:=hx.n (by simp) (by simp);have b:=hy.n (by simp) (by simp);simp only at a b;subst a b;have h':[99,111,112,121,32] ++ placeP ls p ++ r=[99,111,112,121,32] ++ placeP ls p' ++ s:=h;rw [bM,bM,List.append_cancel_left_eq] at h';obtain ⟨rfl,e⟩:=fF H (hx.place (by simp)) (hy.place (by simp)) hr hs h';exact ⟨rfl,e⟩
 ·have a:=hx.n (by simp) (by simp);have b:=hy.n (by simp) (by simp);simp only at a b;subst a b;have h':[109,111,118,101,32] ++ placeP ls p ++ r=[109,111,118,101,32] ++ placeP ls p' ++ s:=h;rw [bM,bM,List.append_cancel_left_eq] at h';obtain ⟨rfl,e⟩:=fF H (hx.place (by simp)) (hy.place (by simp)) hr hs h';exact ⟨rfl,e⟩
 ·have a:=hx.zero (by simp);have b:=hy.zero (by simp);simp only at a b;subst a b;obtain ⟨rfl,e⟩:=oO hr.dig hs.dig (show Lib.itoa n ++ r=Lib.itoa n' ++ s from h);exact ⟨rfl,e⟩
 ·have a:=hx.zero (by simp);have b:=hy.zero (by simp);simp only at a b;subst a b;have h':boolP (decide (n=1)) ++ r=boolP (decide (n'=1)) ++ s:=h;have e1:=hx.bool rfl;have e2:=hy.bool rfl;simp only at e1 e2;rcases e1 with rfl | rfl <;> rcases e2 with rfl | rfl <;> simp [boolP] at h' <;> exact ⟨rfl,h'⟩
 ·have a:=hx.zero (by simp);have b:=hy.zero (by simp);have a1:=hx.n (by simp) (by simp);have b1:=hy.n (by simp) (by simp);simp only at a b a1 b1;subst a b a1 b1;have h':unitP ++ r=unitP ++ s:=h;rw [List.append_cancel_left_eq] at h';exact ⟨rfl,h'⟩
theorem tG {ls:List Lc} {o:Opd} (h:OkOp ls o) (c:UInt8) (hc:c=41\/c=59\/c=32) (t u:List UInt8):opdP ls o ++ t≠c :: u:=fun e=>by
 obtain ⟨k,p,n⟩:=o;have hk:=h.kind;simp only at hk;obtain rfl | rfl | rfl | rfl | rfl:k=0\/k=1\/k=2\/k=3\/k=4:=by omega
 ·have e':(99:UInt8) :: _=c :: u:=e;injection e' with e1;subst e1;revert hc;decide
 ·have e':(109:UInt8) :: _=c :: u:=e;injection e' with e1;subst e1;revert hc;decide
 ·have e':Lib.itoa n ++ t=c :: u:=e;obtain ⟨d,t',e'',hd⟩:=lV n;rw [e''] at e';injection e' with e1;subst e1
  rcases hd with rfl | hd
  ·revert hc;decide
  ·rcases hc with rfl | rfl | rfl <;> exact absurd hd (by decide)
 ·have e':boolP (decide (n=1)) ++ t=c :: u:=e;cases hd:decide (n=1) <;> rw [hd] at e' <;> simp [boolP] at e' <;> (obtain ⟨rfl,_⟩:=e';revert hc;decide)
 ·have e':(117:UInt8) :: _=c :: u:=e;injection e' with e1;subst e1;revert hc;decide
theorem jZ {ls:List Lc} (H:NmLs ls) {xs ys:List Opd} {c d:UInt8} {r s:List UInt8} (hx:∀x∈xs,OkOp ls x) (hy:∀y∈ys,OkOp ls y) (hc:c=41\/c=59\/c=32) (hd:d=41\/d=59\/d=32)
 (h:opsP ls xs ++ c :: r=opsP ls ys ++ d :: s):xs=ys/\c :: r=d :: s:=by
 have st:∀(e:UInt8) (t:List UInt8),(e=41\/e=59\/e=32)->StI (e :: t)/\NoCom (e :: t):=fun e t he=>by
  rcases he with rfl | rfl | rfl <;> exact ⟨sti (by decide),fun t e=>by cases e⟩
 exact oP (fun x y r s hx hy hr hs h=>xGM H hx hy hr hs h) (fun t=>sti (by decide)) xs ys _ _ hx hy (st c r hc).1 (st d s hd).1 (st c r hc).2 (st d s hd).2
  (fun x t ho=>tG ho c hc t r) (fun x t ho=>tG ho d hd t s) h
theorem zX {rs:List ByteArray} (H:NmRs rs) {i j:Int} {m m':Bool} {a b x y:List UInt8} (hi:okI rs.length i) (hj:okI rs.length j) (ha:∀t,a ++ x≠109 :: t) (hb:∀t,b ++ y≠109 :: t)
 (h:refP rs i m a ++ x=refP rs j m' b ++ y):i=j/\m=m'/\a ++ x=b ++ y:=by
 simp only [refP,bM,List.cons_append,List.nil_append,List.cons.injEq,true_and] at h;obtain ⟨rfl,e⟩:=zW H hi hj (sti (by decide)) (sti (by decide)) h;injection e with _ e
 cases m <;> cases m' <;> simp only [if_true,if_false,Bool.false_eq_true,List.nil_append,List.cons_append,List.cons.injEq,true_and] at e
 ·exact ⟨rfl,rfl,e⟩
 ·exact absurd e (ha _)
 ·exact absurd e.symm (hb _)
 ·exact ⟨rfl,rfl,e⟩
structure OkTy (rs:List ByteArray) (t:Ty):Prop where
 kind:0<=t.kind/\t.kind<=4
 ref:t.kind≠3->t.mu=false/\t.reg=0/\t.elem=0
 tup:t.kind≠4->t.flds=[]
 reg:t.kind=3->okI rs.length t.reg
def keyY:List UInt8->Int
 | 117 :: _=>0
 | 98 :: _=>1
 | 105 :: _=>2
 | 38 :: _=>3
 | _=>4
theorem yR {rs:List ByteArray} {t:Ty} (h:OkTy rs t) (r:List UInt8):keyY (typeP rs t ++ r)=t.kind:=by
 obtain ⟨k,mu,reg,elem,flds⟩:=t;have hk:=h.kind;simp only at hk;obtain rfl | rfl | rfl | rfl | rfl:k=0\/k=1\/k=2\/k=3\/k=4:=by omega
 all_goals rfl
theorem xCW {rs:List ByteArray} (H:NmRs rs) {x y:Ty} {r s:List UInt8} (hx:OkTy rs x) (hy:OkTy rs y) (h:typeP rs x ++ 59 :: r=typeP rs y ++ 59 :: s):x=y/\r=s:=by
 have hk:x.kind=y.kind:=by rw [<- yR hx (59 :: r),<- yR hy (59 :: s),h]
 obtain ⟨k,mu,reg,elem,flds⟩:=x;obtain ⟨k',mu',reg',elem',flds'⟩:=y;obtain rfl:k=k':=hk;have hb:=hx.kind;have a:=hx.ref;have b:=hy.ref;have c:=hx.tup;have d:=hy.tup;simp only at hb a b c d;obtain rfl | rfl | rfl | rfl | rfl:k=0\/k=1\/k=2\/k=3\/k=4:=by omega
 case inr.inr.inr.inl=>
  have e1:=c (by simp);have e2:=d (by simp);subst e1 e2;have h':refP rs reg mu (idxP 35 elem) ++ 59 :: r=refP rs reg' mu' (idxP 35 elem') ++ 59 :: s:=h;obtain ⟨rfl,rfl,e⟩:=zX H (hx.reg rfl) (hy.reg rfl) (fun t e=>by cases e) (fun t e=>by cases e) h';replace e:=gI (Stop.cons (by decide) _) (Stop.cons (by decide) _) e;obtain ⟨rfl,e⟩:=e;injection e with _ e
  exact ⟨rfl,e⟩
 case inr.inr.inr.inr=>
  obtain ⟨rfl,rfl,rfl⟩:=a (by simp);obtain ⟨rfl,rfl,rfl⟩:=b (by simp);have h':40 :: (comP (flds.map (idxP 35)) ++ [41]) ++ 59 :: r=40 :: (comP (flds'.map (idxP 35)) ++ [41]) ++ 59 :: s:=h;simp only [List.cons_append,bM,List.nil_append,List.cons.injEq,true_and] at h'
  obtain ⟨rfl,e⟩:=oP (f:=idxP 35) (ok:=fun _=>True) (st:=Stop isDig) (fun x y r s _ _ hr hs h=>gI hr hs h) (fun t=>Stop.cons (by decide) _) flds flds' _ _ (fun _ _=>trivial) (fun _ _=>trivial)
   (Stop.cons (by decide) _) (Stop.cons (by decide) _) (fun t e=>by cases e) (fun t e=>by cases e) (fun x t _ e=>by cases e) (fun x t _ e=>by cases e) h'
  injection e with _ e
  injection e with _ e
  exact ⟨rfl,e⟩
 all_goals
  obtain ⟨rfl,rfl,rfl⟩:=a (by simp);obtain ⟨rfl,rfl,rfl⟩:=b (by simp);have e1:=c (by simp);have e2:=d (by simp);subst e1 e2;have h':=List.append_cancel_left h;injection h' with _ h'
  exact ⟨rfl,h'⟩
structure OkRv (ls:List Lc) (rs:List ByteArray) (r:Rvl):Prop where
 kind:0<=r.kind/\r.kind<=4
 bor:r.kind≠1->r.reg=0/\r.mu=false/\r.place=⟨0,[]⟩
 isb:r.kind=1->r.op=0/\r.args=[]/\okI rs.length r.reg/\OkPl ls r.place
 op:r.kind=0\/r.kind=4->r.op=0
 use:r.kind=0->r.args.length=1
 una:r.kind=2->0<=r.op/\r.op<=1
 bin:r.kind=3->0<=r.op/\r.op<=5
 args:∀o∈r.args,OkOp ls o
def keyR:List UInt8->Int
 | 38 :: _=>1
 | 40 :: _=>4
 | 110 :: _=>2
 | 97 :: _=>3
 | 115 :: _=>3
 | 101 :: _=>3
 | 108 :: _=>3
 | 109 :: 117 :: _=>3
 | _=>0
theorem xCQ {ls:List Lc} {o:Opd} (h:OkOp ls o) (r:List UInt8):keyR (opdP ls o ++ r)=0:=by
 obtain ⟨k,p,n⟩:=o;have hk:=h.kind;simp only at hk;obtain rfl | rfl | rfl | rfl | rfl:k=0\/k=1\/k=2\/k=3\/k=4:=by omega
 ·rfl
 ·rfl
 ·show keyR (Lib.itoa n ++ r)=0;obtain ⟨c,t,e,hc⟩:=lV n;rw [e];rcases hc with rfl | hc
  ·rfl
  ·rcases qK hc with rfl | rfl | rfl | rfl | rfl | rfl | rfl | rfl | rfl | rfl <;> rfl
 ·show keyR (boolP (decide (n=1)) ++ r)=0;cases decide (n=1) <;> rfl
 ·rfl
theorem tH {op:Int} (h:0<=op/\op<=5):op=0\/op=1\/op=2\/op=3\/op=4\/op=5:=by omega
theorem rS {ls:List Lc} {rs:List ByteArray} {x:Rvl} (h:OkRv ls rs x) (r:List UInt8):keyR (rvP ls rs x ++ r)=x.kind:=by
 obtain ⟨k,op,reg,mu,place,args⟩:=x;have hk:=h.kind;simp only at hk;obtain rfl | rfl | rfl | rfl | rfl:k=0\/k=1\/k=2\/k=3\/k=4:=by omega
 ·have hu:=h.use rfl;have ha:=h.args;simp only at hu ha
  obtain ⟨o,rfl⟩:∃o,args=[o]:=by
   match args,hu with
   | [o],_=>exact ⟨o,rfl⟩
  show keyR (opsP ls [o] ++ r)=0;unfold opsP;rw [cJ,cK,sA];exact xCQ (ha o (by simp)) r
 ·rfl
 ·have hu:=h.una rfl;simp only at hu;obtain rfl | rfl:op=0\/op=1:=by omega
  all_goals rfl
 ·have hu:=h.bin rfl;simp only at hu;obtain rfl | rfl | rfl | rfl | rfl | rfl:=tH hu;all_goals rfl
 ·rfl
theorem xGL {a b:Int} {r s:List UInt8} (ha:0<=a/\a<=1) (hb:0<=b/\b<=1) (h:unaP a ++ r=unaP b ++ s):a=b/\r=s:=by
 obtain rfl | rfl:a=0\/a=1:=by omega
 all_goals obtain rfl | rfl:b=0\/b=1:=by omega
 all_goals simp [unaP] at h
 all_goals exact ⟨rfl,h⟩
theorem xGN {a b:Int} {r s:List UInt8} (ha:0<=a/\a<=5) (hb:0<=b/\b<=5) (h:binP a ++ 32 :: r=binP b ++ 32 :: s):a=b/\r=s:=by
 obtain rfl | rfl | rfl | rfl | rfl | rfl:=tH ha;all_goals obtain rfl | rfl | rfl | rfl | rfl | rfl:=tH hb
 all_goals simp [binP] at h
 all_goals exact ⟨rfl,h⟩
theorem xII {ls:List Lc} {rs:List ByteArray} (H:NmLs ls) (G:NmRs rs) {x y:Rvl} {r s:List UInt8} (hx:OkRv ls rs x) (hy:OkRv ls rs y) (h:rvP ls rs x ++ 59 :: r=rvP ls rs y ++ 59 :: s):x=y/\r=s:=by
 have hk:x.kind=y.kind:=by rw [<- rS hx (59 :: r),<- rS hy (59 :: s),h]
 obtain ⟨k,op,reg,mu,place,args⟩:=x;obtain ⟨k',op',reg',mu',place',args'⟩:=y;obtain rfl:k=k':=hk;have hb:=hx.kind;simp only at hb;obtain rfl | rfl | rfl | rfl | rfl:k=0\/k=1\/k=2\/k=3\/k=4:=by omega
 case inr.inl=>
  obtain ⟨a1,a2,a3,a4⟩:=hx.isb rfl;obtain ⟨b1,b2,b3,b4⟩:=hy.isb rfl;simp only at a1 a2 b1 b2;subst a1 a2 b1 b2;have h':refP rs reg mu (placeP ls place) ++ 59 :: r=refP rs reg' mu' (placeP ls place') ++ 59 :: s:=h;obtain ⟨rfl,rfl,e⟩:=zX G a3 b3 (fun t e=>by cases e) (fun t e=>by cases e) h';replace e:=fF H a4 b4 (sti (by decide)) (sti (by decide)) e;obtain ⟨rfl,e⟩:=e;injection e with _ e
  exact ⟨rfl,e⟩
 all_goals
  obtain ⟨rfl,rfl,rfl⟩:=hx.bor (by simp);obtain ⟨rfl,rfl,rfl⟩:=hy.bor (by simp)
 ·have a1:=hx.op (.inl rfl);have b1:=hy.op (.inl rfl);simp only at a1 b1;subst a1 b1;obtain ⟨rfl,e⟩:=jZ H hx.args hy.args (.inr (.inl rfl)) (.inr (.inl rfl)) (show opsP ls args ++ 59 :: r=opsP ls args' ++ 59 :: s from h);injection e with _ e
  exact ⟨rfl,e⟩
 ·have h':unaP op ++ [32] ++ opsP ls args ++ 59 :: r=unaP op' ++ [32] ++ opsP ls args' ++ 59 :: s:=h;simp only [bM] at h';obtain ⟨rfl,e⟩:=xGL (hx.una rfl) (hy.una rfl) h';simp only [List.cons_append,List.nil_append,List.cons.injEq,true_and] at e;replace e:=jZ H hx.args hy.args (.inr (.inl rfl)) (.inr (.inl rfl)) e;obtain ⟨rfl,e⟩:=e;injection e with _ e
  exact ⟨rfl,e⟩
 ·have h':binP op ++ [32] ++ opsP ls args ++ 59 :: r=binP op' ++ [32] ++ opsP ls args' ++ 59 :: s:=h;simp only [bM,List.cons_append,List.nil_append] at h';obtain ⟨rfl,e⟩:=xGN (hx.bin rfl) (hy.bin rfl) h';replace e:=jZ H hx.args hy.args (.inr (.inl rfl)) (.inr (.inl rfl)) e;obtain ⟨rfl,e⟩:=e;injection e with _ e
  exact ⟨rfl,e⟩
 ·have a1:=hx.op (.inr rfl);have b1:=hy.op (.inr rfl);simp only at a1 b1;subst a1 b1;have h':40 :: (opsP ls args ++ [41]) ++ 59 :: r=40 :: (opsP ls args' ++ [41]) ++ 59 :: s:=h;simp only [List.cons_append,bM,List.nil_append,List.cons.injEq,true_and] at h';obtain ⟨rfl,e⟩:=jZ H hx.args hy.args (.inl rfl) (.inl rfl) h';injection e with _ e
  injection e with _ e
  exact ⟨rfl,e⟩
theorem xEX {ls:List Lc} {rs:List ByteArray} {x:Rvl} (h:OkRv ls rs x) (t u:List UInt8):rvP ls rs x ++ t≠99 :: 97 :: u:=fun e=>by
 obtain ⟨k,op,reg,mu,place,args⟩:=x
 have hk:k=0:=by
  have:=rS h t;rw [e] at this;exact this.symm
 subst hk;have hu:=h.use rfl;have ha:=h.args;simp only at hu ha
 obtain ⟨o,rfl⟩:∃o,args=[o]:=by
  match args,hu with
  | [o],_=>exact ⟨o,rfl⟩
 have e':opsP ls [o] ++ t=99 :: 97 :: u:=e;unfold opsP at e';rw [cJ,cK,sA] at e';have ho:=ha o (by simp);have hk:=oJ ho t;rw [e'] at hk;obtain ⟨k,p,n⟩:=o;obtain rfl:0=k:=hk;have e'':(99:UInt8) :: 111 :: _=99 :: 97 :: u:=e';injection e'' with _ e''
 injection e'' with e'' _
 exact absurd e'' (by decide)
structure OkSt (ls:List Lc) (rs:List ByteArray) (s:Stm):Prop where
 kind:0<=s.kind/\s.kind<=2
 asg:s.kind=0->s.loc=0/\OkPl ls s.place/\OkRv ls rs s.rv
 oth:s.kind≠0->s.place=⟨0,[]⟩/\s.rv=⟨0,0,0,false,⟨0,[]⟩,[]⟩
 dead:s.kind=1->okI ls.length s.loc
 nop:s.kind=2->s.loc=0
def keyS:List UInt8->Int
 | 37 :: _=>0
 | 100 :: _=>1
 | _=>2
theorem rR {ls:List Lc} {rs:List ByteArray} {s:Stm} (h:OkSt ls rs s) (r:List UInt8):keyS (stmtP ls rs s ++ r)=s.kind:=by
 obtain ⟨k,p,v,l⟩:=s;have hk:=h.kind;simp only at hk;obtain rfl | rfl | rfl:k=0\/k=1\/k=2:=by omega
 all_goals rfl
theorem xCY {ls:List Lc} {rs:List ByteArray} (H:NmLs ls) (G:NmRs rs) {x y:Stm} {r s:List UInt8} (hx:OkSt ls rs x) (hy:OkSt ls rs y) (h:stmtP ls rs x ++ 59 :: r=stmtP ls rs y ++ 59 :: s):x=y/\r=s:=by
 have hk:x.kind=y.kind:=by rw [<- rR hx (59 :: r),<- rR hy (59 :: s),h]
 obtain ⟨k,p,v,l⟩:=x;obtain ⟨k',p',v',l'⟩:=y;obtain rfl:k=k':=hk;have hb:=hx.kind;simp only at hb;obtain rfl | rfl | rfl:k=0\/k=1\/k=2:=by omega
 ·obtain ⟨a1,a2,a3⟩:=hx.asg rfl;obtain ⟨b1,b2,b3⟩:=hy.asg rfl;simp only at a1 b1;subst a1 b1;have h':placeP ls p ++ [32,61,32] ++ rvP ls rs v ++ 59 :: r=placeP ls p' ++ [32,61,32] ++ rvP ls rs v' ++ 59 :: s:=h;simp only [bM,List.cons_append,List.nil_append] at h';obtain ⟨rfl,e⟩:=fF H a2 b2 (sti (by decide)) (sti (by decide)) h';simp only [List.cons.injEq,true_and] at e;replace e:=xII H G a3 b3 e;obtain ⟨rfl,e⟩:=e;exact ⟨rfl,e⟩
 ·obtain ⟨rfl,rfl⟩:=hx.oth (by simp);obtain ⟨rfl,rfl⟩:=hy.oth (by simp);have h':[100,101,97,100,32,37] ++ nmP ls l ++ 59 :: r=[100,101,97,100,32,37] ++ nmP ls l' ++ 59 :: s:=h;rw [bM,bM,List.append_cancel_left_eq] at h';obtain ⟨rfl,e⟩:=xIK H (hx.dead rfl) (hy.dead rfl) (sti (by decide)) (sti (by decide)) h';injection e with _ e
  exact ⟨rfl,e⟩
 ·obtain ⟨rfl,rfl⟩:=hx.oth (by simp);obtain ⟨rfl,rfl⟩:=hy.oth (by simp);have a1:=hx.nop rfl;have b1:=hy.nop rfl;simp only at a1 b1;subst a1 b1;have h':[110,111,112] ++ 59 :: r=[110,111,112] ++ 59 :: s:=h;rw [List.append_cancel_left_eq] at h';injection h' with _ h'
  exact ⟨rfl,h'⟩
structure OkTm (ls:List Lc) (t:Trm):Prop where
 kind:0<=t.kind/\t.kind<=5
 one:t.kind=0\/t.kind=3\/t.kind=4->t.targets.length=1
 two:t.kind=1->t.targets.length=2/\t.args.length=1
 none:t.kind=2\/t.kind=5->t.targets=[]
 noargs:t.kind≠1->t.kind≠3->t.args=[]
 zero:t.kind≠3->t.kind≠4->t.place=⟨0,[]⟩
 noname:t.kind≠3->t.name=⟨#[]⟩
 call:t.kind=3->isIdent t.name=true
 place:t.kind=3\/t.kind=4->OkPl ls t.place
 args:∀o∈t.args,OkOp ls o
def keyT:List UInt8->Int
 | 103 :: _=>0
 | 105 :: _=>1
 | 114 :: _=>2
 | 37 :: _=>3
 | 100 :: _=>4
 | _=>5
theorem kind_six {k:Int} (h:0<=k/\k<=5):k=0\/k=1\/k=2\/k=3\/k=4\/k=5:=by omega
theorem rQ {ls:List Lc} {t:Trm} (h:OkTm ls t) (r:List UInt8):keyT (termP ls t ++ r)=t.kind:=by
 obtain ⟨k,tg,ar,p,n⟩:=t;have hk:=h.kind;simp only at hk;obtain rfl | rfl | rfl | rfl | rfl | rfl:=kind_six hk;all_goals rfl
theorem iJ {l:List Int} (h:l.length=1):∃a,l=[a]:=match l,h with
 | [a],_=>⟨a,rfl⟩
theorem wP {l:List Int} (h:l.length=2):∃a b,l=[a,b]:=match l,h with
 | [a,b],_=>⟨a,b,rfl⟩
theorem xCX {ls:List Lc} (H:NmLs ls) {x y:Trm} {r s:List UInt8} (hx:OkTm ls x) (hy:OkTm ls y) (h:termP ls x ++ 59 :: r=termP ls y ++ 59 :: s):x=y/\r=s:=by
 have hk:x.kind=y.kind:=by rw [<- rQ hx (59 :: r),<- rQ hy (59 :: s),h]
 obtain ⟨k,tg,ar,p,n⟩:=x;obtain ⟨k',tg',ar',p',n'⟩:=y;obtain rfl:k=k':=hk;have hb:=hx.kind;simp only at hb;have D:∀(c:UInt8) (t:List UInt8),isDig c=false->Stop isDig (c :: t):=fun c t h=>Stop.cons h t
 obtain rfl | rfl | rfl | rfl | rfl | rfl:=kind_six hb
 ·obtain rfl:=hx.noargs (by simp) (by simp);obtain rfl:=hy.noargs (by simp) (by simp);obtain rfl:=hx.zero (by simp) (by simp);obtain rfl:=hy.zero (by simp) (by simp);obtain rfl:=hx.noname (by simp);obtain rfl:=hy.noname (by simp);obtain ⟨a,rfl⟩:=iJ (hx.one (.inl rfl));obtain ⟨b,rfl⟩:=iJ (hy.one (.inl rfl));have h':[103,111,116,111,32] ++ idxP 94 a ++ 59 :: r=[103,111,116,111,32] ++ idxP 94 b ++ 59 :: s:=h;rw [bM,bM,List.append_cancel_left_eq] at h';obtain ⟨rfl,e⟩:=gI (D _ _ (by decide)) (D _ _ (by decide)) h';injection e with _ e
  exact ⟨rfl,e⟩
 ·obtain rfl:=hx.zero (by simp) (by simp);obtain rfl:=hy.zero (by simp) (by simp);obtain rfl:=hx.noname (by simp);obtain rfl:=hy.noname (by simp);obtain ⟨a,a',rfl⟩:=wP (hx.two rfl).1;obtain ⟨b,b',rfl⟩:=wP (hy.two rfl).1;have h':[105,102,32] ++ opsP ls ar ++ [32] ++ idxP 94 a ++ [32,101,108,115,101,32] ++ idxP 94 a' ++ 59 :: r=[105,102,32] ++ opsP ls ar' ++ [32] ++ idxP 94 b ++ [32,101,108,115,101,32] ++ idxP 94 b' ++ 59 :: s:=h;simp only [bM,List.cons_append,List.nil_append,List.cons.injEq,true_and] at h';obtain ⟨rfl,e⟩:=jZ H hx.args hy.args (.inr (.inr rfl)) (.inr (.inr rfl)) h';injection e with _ e
  replace e:=gI (D _ _ (by decide)) (D _ _ (by decide)) e;obtain ⟨rfl,e⟩:=e;simp only [List.cons.injEq,true_and] at e;replace e:=gI (D _ _ (by decide)) (D _ _ (by decide)) e;obtain ⟨rfl,e⟩:=e;injection e with _ e
  exact ⟨rfl,e⟩
 ·obtain rfl:=hx.noargs (by simp) (by simp);obtain rfl:=hy.noargs (by simp) (by simp);obtain rfl:=hx.zero (by simp) (by simp);obtain rfl:=hy.zero (by simp) (by simp);obtain rfl:=hx.noname (by simp);obtain rfl:=hy.noname (by simp);obtain rfl:=hx.none (.inl rfl);obtain rfl:=hy.none (.inl rfl);have h':=List.append_cancel_left h;injection h' with _ h'
  exact ⟨rfl,h'⟩
 ·obtain ⟨a,rfl⟩:=iJ (hx.one (.inr (.inl rfl)));obtain ⟨b,rfl⟩:=iJ (hy.one (.inr (.inl rfl)));have h':placeP ls p ++ [32,61,32,99,97,108,108,32,64] ++ bl n ++ [40] ++ opsP ls ar ++ [41,32] ++ idxP 94 a ++ 59 :: r=placeP ls p' ++ [32,61,32,99,97,108,108,32,64] ++ bl n' ++ [40] ++ opsP ls ar' ++ [41,32] ++ idxP 94 b ++ 59 :: s:=h;simp only [bM,List.cons_append,List.nil_append] at h';obtain ⟨rfl,e⟩:=fF H (hx.place (.inl rfl)) (hy.place (.inl rfl)) (sti (by decide)) (sti (by decide)) h';simp only [List.cons.injEq,true_and] at e;replace e:=fV (hx.call rfl) (hy.call rfl) (Stop.cons (by decide) _) (Stop.cons (by decide) _) e;obtain ⟨rfl,e⟩:=e;injection e with _ e
  replace e:=jZ H hx.args hy.args (.inl rfl) (.inl rfl) e;obtain ⟨rfl,e⟩:=e;simp only [List.cons.injEq,true_and] at e;replace e:=gI (D _ _ (by decide)) (D _ _ (by decide)) e;obtain ⟨rfl,e⟩:=e;injection e with _ e
  exact ⟨rfl,e⟩
 ·obtain rfl:=hx.noargs (by simp) (by simp);obtain rfl:=hy.noargs (by simp) (by simp);obtain rfl:=hx.noname (by simp);obtain rfl:=hy.noname (by simp);obtain ⟨a,rfl⟩:=iJ (hx.one (.inr (.inr rfl)));obtain ⟨b,rfl⟩:=iJ (hy.one (.inr (.inr rfl)));have h':[100,114,111,112,32] ++ placeP ls p ++ [32] ++ idxP 94 a ++ 59 :: r=[100,114,111,112,32] ++ placeP ls p' ++ [32] ++ idxP 94 b ++ 59 :: s:=h;simp only [bM,List.append_cancel_left_eq] at h';obtain ⟨rfl,e⟩:=fF H (hx.place (.inr rfl)) (hy.place (.inr rfl)) (sti (by decide)) (sti (by decide)) h';injection e with _ e
  replace e:=gI (D _ _ (by decide)) (D _ _ (by decide)) e;obtain ⟨rfl,e⟩:=e;injection e with _ e
  exact ⟨rfl,e⟩
 ·obtain rfl:=hx.noargs (by simp) (by simp);obtain rfl:=hy.noargs (by simp) (by simp);obtain rfl:=hx.zero (by simp) (by simp);obtain rfl:=hy.zero (by simp) (by simp);obtain rfl:=hx.noname (by simp);obtain rfl:=hy.noname (by simp);obtain rfl:=hx.none (.inr rfl);obtain rfl:=hy.none (.inr rfl);have h':=List.append_cancel_left h;injection h' with _ h'
  exact ⟨rfl,h'⟩
theorem xB {ls:List Lc} {rs:List ByteArray} (H:NmLs ls) {x:Stm} {t:Trm} {r s:List UInt8} (hx:OkSt ls rs x) (ht:OkTm ls t):stmtP ls rs x ++ r≠termP ls t ++ s:=fun h=>by
 have k1:=rR hx r;have k2:=rQ ht s;obtain ⟨k,p,v,l⟩:=x;obtain ⟨k',tg,ar,p',n⟩:=t;have hb:=hx.kind;have hc:=ht.kind;simp only at hb hc;obtain rfl | rfl | rfl:k=0\/k=1\/k=2:=by omega
 all_goals obtain rfl | rfl | rfl | rfl | rfl | rfl:=kind_six hc
 case inl.inr.inr.inr.inl=>
  obtain ⟨a1,a2,a3⟩:=hx.asg rfl;have h':placeP ls p ++ [32,61,32] ++ rvP ls rs v ++ r=placeP ls p' ++ [32,61,32,99,97,108,108,32,64] ++ bl n ++ [40] ++ opsP ls ar ++ [41,32] ++ tgP tg 0 ++ s:=h;simp only [bM,List.cons_append,List.nil_append] at h';obtain ⟨rfl,e⟩:=fF H a2 (ht.place (.inl rfl)) (sti (by decide)) (sti (by decide)) h';simp only [List.cons.injEq,true_and] at e;exact xEX a3 _ _ e
 case inr.inl.inr.inr.inr.inr.inl=>
  have h':(100:UInt8) :: 101 :: _=100 :: 114 :: _:=h;injection h' with _ h'
  injection h' with h' _
  exact absurd h' (by decide)
 all_goals
  first
   | (have h':(37:UInt8) :: _=103 :: _:=h;injection h' with h' _;exact absurd h' (by decide))
   | (have h':(37:UInt8) :: _=105 :: _:=h;injection h' with h' _;exact absurd h' (by decide))
   | (have h':(37:UInt8) :: _=114 :: _:=h;injection h' with h' _;exact absurd h' (by decide))
   | (have h':(37:UInt8) :: _=100 :: _:=h;injection h' with h' _;exact absurd h' (by decide))
   | (have h':(37:UInt8) :: _=117 :: _:=h;injection h' with h' _;exact absurd h' (by decide))
   | (have h':(100:UInt8) :: _=103 :: _:=h;injection h' with h' _;exact absurd h' (by decide))
   | (have h':(100:UInt8) :: _=105 :: _:=h;injection h' with h' _;exact absurd h' (by decide))
   | (have h':(100:UInt8) :: _=114 :: _:=h;injection h' with h' _;exact absurd h' (by decide))
   | (have h':(100:UInt8) :: _=37 :: _:=h;injection h' with h' _;exact absurd h' (by decide))
   | (have h':(100:UInt8) :: _=117 :: _:=h;injection h' with h' _;exact absurd h' (by decide))
   | (have h':(110:UInt8) :: _=103 :: _:=h;injection h' with h' _;exact absurd h' (by decide))
   | (have h':(110:UInt8) :: _=105 :: _:=h;injection h' with h' _;exact absurd h' (by decide))
   | (have h':(110:UInt8) :: _=114 :: _:=h;injection h' with h' _;exact absurd h' (by decide))
   | (have h':(110:UInt8) :: _=37 :: _:=h;injection h' with h' _;exact absurd h' (by decide))
   | (have h':(110:UInt8) :: _=100 :: _:=h;injection h' with h' _;exact absurd h' (by decide))
   | (have h':(110:UInt8) :: _=117 :: _:=h;injection h' with h' _;exact absurd h' (by decide))
structure OkBk (ls:List Lc) (rs:List ByteArray) (b:Blk):Prop where
 st:∀x∈b.stmts,OkSt ls rs x
 tm:OkTm ls b.term
theorem wC {ls:List Lc} {rs:List ByteArray} (H:NmLs ls) (G:NmRs rs) {x y:Stm} {r s:List UInt8} (hx:OkSt ls rs x) (hy:OkSt ls rs y) (h:dO ls rs x ++ r=dO ls rs y ++ s):x=y/\r=s:=by
 simp only [dO,semP,bM,List.cons_append,List.nil_append,List.cons.injEq,true_and] at h;obtain ⟨e1,e2⟩:=xCY H G hx hy h;injection e2 with _ e2
 exact ⟨e1,e2⟩
def kB (ls:List Lc) (t:Trm):List UInt8:=[32,32,32,32] ++ termP ls t ++ semP
theorem wB {ls:List Lc} (H:NmLs ls) {x y:Trm} {r s:List UInt8} (hx:OkTm ls x) (hy:OkTm ls y) (h:kB ls x ++ r=kB ls y ++ s):x=y/\r=s:=by
 simp only [kB,semP,bM,List.cons_append,List.nil_append,List.cons.injEq,true_and] at h;obtain ⟨e1,e2⟩:=xCX H hx hy h;injection e2 with _ e2
 exact ⟨e1,e2⟩
theorem yN {ls:List Lc} {rs:List ByteArray} (H:NmLs ls) {x:Stm} {t:Trm} {r s:List UInt8} (hx:OkSt ls rs x) (ht:OkTm ls t):dO ls rs x ++ r≠kB ls t ++ s:=fun h=>by
 simp only [dO,kB,bM,List.cons_append,List.nil_append,List.cons.injEq,true_and] at h;exact xB H hx ht h
theorem xAA {ls:List Lc} {rs:List ByteArray} (H:NmLs ls) (G:NmRs rs) (i:Nat) {x y:Blk} {r s:List UInt8} (hx:OkBk ls rs x) (hy:OkBk ls rs y) (h:fH ls rs i x ++ r=fH ls rs i y ++ s):x=y/\r=s:=by
 obtain ⟨ss,t⟩:=x;obtain ⟨ss',t'⟩:=y
 have h':([32,32] ++ idxP 94 i ++ [58,32,123,10]) ++ (ss.flatMap (dO ls rs) ++ (kB ls t ++ ([32,32,125,10] ++ r)))=([32,32] ++ idxP 94 i ++ [58,32,123,10]) ++ (ss'.flatMap (dO ls rs) ++ (kB ls t' ++ ([32,32,125,10] ++ s))):=by
  simp only [fH,kB,bM] at h ⊢;exact h
 have h1:=List.append_cancel_left h'
 obtain ⟨rfl,h2⟩:=tY (f:=dO ls rs) (ok:=OkSt ls rs) (fun x y r s hx hy h=>wC H G hx hy h) ss ss' _ _ hx.st hy.st
  (fun x u ho=>yN H ho hx.tm) (fun x u ho=>yN H ho hy.tm) h1
 obtain ⟨rfl,h3⟩:=wB H hx.tm hy.tm h2;exact ⟨rfl,List.append_cancel_left h3⟩
def third:List UInt8->Option UInt8
 | _ :: _ :: c :: _=>some c
 | _=>none
theorem kZ {α : Type} {f:Nat-> α -> List UInt8} {c:UInt8} {r:List UInt8} (hf:∀i x t,third (f i x ++ t)≠some c) (hr:third r≠some c) (i:Nat) (xs:List α):third (numP f i xs ++ r)≠some c:=by
 cases xs with
 | nil=>exact hr
 | cons x xs=>rw [dR,bM];exact hf i x _
theorem nT (rs:List ByteArray) (i:Nat) (t:Ty) (u:List UInt8):third (gU rs i t ++ u)=some 116:=rfl
theorem third_lc (a:Int) (i:Nat) (l:Lc) (u:List UInt8):third (lcLine a i l ++ u)=some 97\/third (lcLine a i l ++ u)=some 108:=by
 unfold lcLine;cases decide ((i:Int)<a)
 ·exact .inr rfl
 ·exact .inl rfl
theorem xAX (ls:List Lc) (rs:List ByteArray) (i:Nat) (b:Blk) (u:List UInt8):third (fH ls rs i b ++ u)=some 94:=rfl
theorem xCZ {xs ys:List ByteArray} {r s:List UInt8} (hx:∀x∈xs,isIdent x=true) (hy:∀y∈ys,isIdent y=true) (hr:third r≠some 114) (hs:third s≠some 114) (h:regsP xs ++ r=regsP ys ++ s):xs=ys/\r=s:=by
 have sep:∀(l:List UInt8) (zs:List ByteArray),zs≠[]->∀t,l=regsP zs ++ t->third l=some 114:=fun l zs hz t e=>by
  rw [e,regsP,aZ hz];rfl
 by_cases ex:xs=[] <;> by_cases ey:ys=[]
 ·subst ex ey;exact ⟨rfl,h⟩
 ·subst ex;exact absurd (sep r ys ey s h) hr
 ·subst ey;exact absurd (sep s xs ex r h.symm) hs
 ·simp only [regsP,aZ ex,aZ ey,bM] at h;have h1:=List.append_cancel_left h
  obtain ⟨rfl,e⟩:=oP (f:=fun r=>39 :: bl r) (ok:=fun x=>isIdent x=true) (st:=Stop idc)
   (fun x y r s hx hy hr hs h=>by
     simp only [List.cons_append,List.cons.injEq,true_and] at h
     exact fV hx hy hr hs h)
   (fun t=>Stop.cons (by decide) _) xs ys _ _ hx hy (Stop.cons (by decide) _) (Stop.cons (by decide) _) (fun t e=>by cases e) (fun t e=>by cases e)
   (fun x t _ e=>by cases e) (fun x t _ e=>by cases e) h1
  exact ⟨rfl,kA (a:=semP) e⟩
def OkOut (n:Nat) (x:Int × Int):Prop:=okI n x.1/\okI n x.2
theorem xDA {rs:List ByteArray} (G:NmRs rs) {xs ys:List (Int × Int)} {r s:List UInt8} (hx:∀x∈xs,OkOut rs.length x) (hy:∀y∈ys,OkOut rs.length y) (hr:third r≠some 111) (hs:third s≠some 111) (h:outsP rs xs ++ r=outsP rs ys ++ s):xs=ys/\r=s:=by
 have sep:∀(l:List UInt8) (zs:List (Int × Int)),zs≠[]->∀t,l=outsP rs zs ++ t->third l=some 111:=fun l zs hz t e=>by
  rw [e,outsP,aZ hz];rfl
 by_cases ex:xs=[] <;> by_cases ey:ys=[]
 ·subst ex ey;exact ⟨rfl,h⟩
 ·subst ex;exact absurd (sep r ys ey s h) hr
 ·subst ey;exact absurd (sep s xs ex r h.symm) hs
 ·simp only [outsP,aZ ex,aZ ey,bM] at h;have h1:=List.append_cancel_left h
  obtain ⟨rfl,e⟩:=oP (f:=outP rs) (ok:=OkOut rs.length) (st:=StI)
   (fun x y r s hx hy hr hs h=>by
     obtain ⟨x1,x2⟩:=x;obtain ⟨y1,y2⟩:=y;simp only [outP,bM,List.cons_append,List.nil_append,List.cons.injEq,true_and] at h;obtain ⟨e1,e2⟩:=zW G hx.1 hy.1 (sti (by decide)) (sti (by decide)) h;simp only [List.cons.injEq,true_and] at e2;obtain ⟨e3,e4⟩:=zW G hx.2 hy.2 hr hs e2;simp only at e1 e3
     exact ⟨by rw [e1,e3],e4⟩)
   (fun t=>sti (by decide)) xs ys _ _ hx hy (sti (by decide)) (sti (by decide)) (fun t e=>by cases e) (fun t e=>by cases e)
   (fun x t _ e=>by cases e) (fun x t _ e=>by cases e) h1
  exact ⟨rfl,kA (a:=semP) e⟩
theorem zZ {a b:Int}:∀(xs ys:List Lc) (i:Nat) (r s:List UInt8),(∀x∈xs,isIdent x.name=true)->(∀y∈ys,isIdent y.name=true)->
 (third r≠some 97/\third r≠some 108)->(third s≠some 97/\third s≠some 108)->numP (lcLine a) i xs ++ r=numP (lcLine b) i ys ++ s->
   xs=ys/\r=s/\∀k,k<xs.length->(((i+k:Nat):Int)<a↔((i+k:Nat):Int)<b)
 | [],[],_,_,_,_,_,_,_,h=>⟨rfl,h,fun k hk=>absurd hk (by simp)⟩
 | [],y :: ys,i,r,s,_,_,hr,_,h=>by
   rw [dR,bM] at h;have e:r=lcLine b i y ++ (numP (lcLine b) (i+1) ys ++ s):=h;have:=third_lc b i y (numP (lcLine b) (i+1) ys ++ s);rw [<- e] at this;rcases this with t | t
   ·exact absurd t hr.1
   ·exact absurd t hr.2
 | x :: xs,[],i,r,s,_,_,_,hs,h=>by
   rw [dR,bM] at h;have e:s=lcLine a i x ++ (numP (lcLine a) (i+1) xs ++ r):=h.symm;have:=third_lc a i x (numP (lcLine a) (i+1) xs ++ r);rw [<- e] at this;rcases this with t | t
   ·exact absurd t hs.1
   ·exact absurd t hs.2
 | x :: xs,y :: ys,i,r,s,hx,hy,hr,hs,h=>by
   rw [dR,dR,bM,bM] at h
   have one:∀t u,lcLine a i x ++ t=lcLine b i y ++ u->x=y/\t=u/\((i:Int)<a↔(i:Int)<b):=fun t u e=>by
    obtain ⟨nx,tx⟩:=x;obtain ⟨ny,ty⟩:=y
    have key:∀p q:Bool,[32,32] ++ wordP p ++ [32,37] ++ bl nx ++ [58,32] ++ idxP 35 tx ++ semP ++ t=[32,32] ++ wordP q ++ [32,37] ++ bl ny ++ [58,32] ++ idxP 35 ty ++ semP ++ u->p=q/\nx=ny/\tx=ty/\t=u:=fun p q e=>by
     have e':p=q/\bl nx ++ ([58,32] ++ (idxP 35 tx ++ (semP ++ t)))=bl ny ++ ([58,32] ++ (idxP 35 ty ++ (semP ++ u))):=by
      cases p <;> cases q <;> simp [wordP] at e <;> simp [e]
     obtain ⟨e0,e1⟩:=e';obtain ⟨e2,e3⟩:=fV (hx ⟨nx,tx⟩ (by simp)) (hy ⟨ny,ty⟩ (by simp)) (Stop.cons (by decide) _) (Stop.cons (by decide) _) e1;replace e3:=kA (a:=[58,32]) e3;obtain ⟨e4,e5⟩:=gI (show Stop isDig (semP ++ t) from Stop.cons (by decide) _) (show Stop isDig (semP ++ u) from Stop.cons (by decide) _) e3;exact ⟨e0,e2,e4,List.append_cancel_left e5⟩
    obtain ⟨e0,rfl,rfl,e3⟩:=key _ _ e;exact ⟨rfl,e3,by simpa using e0⟩
   obtain ⟨rfl,h2,h3⟩:=one _ _ h;obtain ⟨rfl,h5,h6⟩:=zZ xs ys (i+1) r s (fun z hz=>hx z (by simp [hz])) (fun z hz=>hy z (by simp [hz])) hr hs h2;refine ⟨rfl,h5,fun k hk=>?_⟩;cases k with
   | zero=>simpa using h3
   | succ k=>
     have:=h6 k (by simpa using hk);rwa [show i+1+k=i+(k+1) by omega] at this
structure OkB (b:Bdy):Prop where
 name:isIdent b.name=true
 rs:NmRs b.regions
 out:∀x∈b.outl,OkOut b.regions.length x
 ty:∀t∈b.types,OkTy b.regions t
 ls:NmLs b.locals
 args:0<=b.args/\b.args<=b.locals.length
 bk:∀x∈b.blocks,OkBk b.locals b.regions x
theorem NmRs.all {rs:List ByteArray} (H:NmRs rs):∀x∈rs,isIdent x=true:=fun x hx=>by
 obtain ⟨i,e⟩:=List.mem_iff_getElem?.1 hx;exact H.id i x e
theorem NmLs.all {ls:List Lc} (H:NmLs ls):∀x∈ls,isIdent x.name=true:=fun x hx=>by
 obtain ⟨i,e⟩:=List.mem_iff_getElem?.1 hx;exact H.id i x e
theorem mR {c:UInt8} {r:List UInt8} (hc:c≠111) (hr:third r≠some c) (rs:List ByteArray) (l:List (Int × Int)):third (outsP rs l ++ r)≠some c:=by
 unfold outsP;split
 ·exact hr
 ·intro e;have e':some (111:UInt8)=some c:=e;exact hc (Option.some.inj e').symm
theorem vK {a b:Bdy} (ha:OkB a) (hb:OkB b) (h:printP a=printP b):a=b:=by
 obtain ⟨an,ar,ao,at_,al,aa,ab⟩:=a;obtain ⟨bn,br,bo,bt,bl_,ba,bb⟩:=b
 have sp:∀(ls:List Lc) (rs:List ByteArray) (xs:List Blk) (c:UInt8),c≠94->third (numP (fH ls rs) 0 xs ++ [125,10])≠some c:=fun ls rs xs c hc=>
  kZ (fun i x t=>by rw [xAX];exact fun e=>hc (Option.some.inj e).symm) (by simp [third]) 0 xs
 have sl:∀(a:Int) (ys:List Lc) (ls:List Lc) (rs:List ByteArray) (xs:List Blk) (c:UInt8),c≠94->c≠97->c≠108->third (numP (lcLine a) 0 ys ++ (numP (fH ls rs) 0 xs ++ [125,10]))≠some c:=fun a ys ls rs xs c h1 h2 h3=>
  kZ (fun i x t=>by
   rcases third_lc a i x t with e | e <;> rw [e] <;> intro e'
   ·exact h2 (Option.some.inj e').symm
   ·exact h3 (Option.some.inj e').symm) (sp ls rs xs c h1) 0 ys
 have sy:∀(qs:List ByteArray) (zs:List Ty) (a:Int) (ys:List Lc) (ls:List Lc) (rs:List ByteArray) (xs:List Blk) (c:UInt8),c≠94->c≠97->c≠108->c≠116->third (numP (gU qs) 0 zs ++ (numP (lcLine a) 0 ys ++ (numP (fH ls rs) 0 xs ++ [125,10])))≠some c:=fun qs zs a ys ls rs xs c h1 h2 h3 h4=>
  kZ (fun i x t=>by rw [nT];exact fun e=>h4 (Option.some.inj e).symm) (sl a ys ls rs xs c h1 h2 h3) 0 zs
 simp only [printP,headP,bM,List.cons_append,List.nil_append,List.cons.injEq,true_and] at h;replace h:=fV ha.name hb.name (Stop.cons (by decide) _) (Stop.cons (by decide) _) h;obtain ⟨e0,h⟩:=h;simp only at e0;subst e0;simp only [List.cons.injEq,true_and] at h;replace h:=xCZ ha.rs.all hb.rs.all (mR (by decide) (sy _ _ _ _ _ _ _ 114 (by decide) (by decide) (by decide) (by decide)) _ _) (mR (by decide) (sy _ _ _ _ _ _ _ 114 (by decide) (by decide) (by decide) (by decide)) _ _) h;obtain ⟨e1,h⟩:=h;simp only at e1;subst e1;replace h:=xDA ha.rs ha.out hb.out (sy _ _ _ _ _ _ _ 111 (by decide) (by decide) (by decide) (by decide)) (sy _ _ _ _ _ _ _ 111 (by decide) (by decide) (by decide) (by decide)) h;obtain ⟨e2,h⟩:=h;simp only at e2;subst e2
 replace h:=rY (f:=gU ar) (ok:=OkTy ar) (fun i x y r s hx hy h=>by
  simp only [gU,semP,bM,List.cons_append,List.nil_append,List.cons.injEq,true_and] at h;have h:=List.append_cancel_left h;simp only [List.cons.injEq,true_and] at h;obtain ⟨e1,e2⟩:=xCW ha.rs hx hy h;injection e2 with _ e2
  exact ⟨e1,e2⟩) at_ bt 0 _ _ ha.ty hb.ty
  (fun i x t e=>by
    have:=sl aa al al ar ab 116 (by decide) (by decide) (by decide)
    rw [<- e] at this;exact this (nT _ _ _ _))
  (fun i x t e=>by
    have:=sl ba bl_ bl_ ar bb 116 (by decide) (by decide) (by decide)
    rw [<- e] at this;exact this (nT _ _ _ _)) h
 obtain ⟨e3,h⟩:=h;subst e3;replace h:=zZ al bl_ 0 _ _ ha.ls.all hb.ls.all ⟨sp _ _ _ _ (by decide),sp _ _ _ _ (by decide)⟩ ⟨sp _ _ _ _ (by decide),sp _ _ _ _ (by decide)⟩ h;obtain ⟨e4,h,hk⟩:=h;subst e4
 have e5:aa=ba:=by
  have h1:=ha.args;have h2:=hb.args;simp only at h1 h2;rcases Int.lt_trichotomy aa ba with h3 | h3 | h3
  ·have:=hk aa.toNat (by omega);omega
  ·exact h3
  ·have:=hk ba.toNat (by omega);omega
 subst e5
 obtain ⟨e6,h⟩:=rY (f:=fH al ar) (ok:=OkBk al ar) (fun i x y r s hx hy h=>xAA ha.ls ha.rs i hx hy h) ab bb 0 _ _ ha.bk hb.bk
  (fun i x t e=>by cases e) (fun i x t e=>by cases e) h
 subst e6;rfl
end
section
open Go Go.RowKit Go.Shelf
attribute [local go_sem] Oper.semAt_some
def encT (t:Tb):Array Value:= #[.agg #[.slice t.A t.xs.length t.c,.int .i64 t.f,.int .i64 t.s]]
theorem eT {N:Nat->Prop} {D:Nat} {T:TypeId->Bool} {A B:World} (h:Kb N D T A B) {p:Addr} {v:Value} (hN:N p.block) (hc:A.cell? p=some v):B.cell? p=some v:=
 (World.cell?_of_block (h.low _ hN (cD A p hc))).trans hc
def Pb (bf bp br:Nat):Nat->Prop:=fun k=>k=bf\/k=bp\/k=br
theorem uP (V:Array Value) (p r:Int) (w:World) (hV:V.size=5) (hE:∃A0 n0 c0 A1 n1 c1 A2 n2 c2 A3 n3 c3 A4 n4 c4,V = #[.slice A0 n0 c0,.slice A1 n1 c1,.slice A2 n2 c2,.slice A3 n3 c3,.slice A4 n4 c4]):
 Calls Tryz.prog 87 #[.agg V,.int .i64 p,.int .i64 r] w fun e' w'=>e' = .returned (.func (.func 136) #[] #[.pointer (some ⟨w.heap.size,0,none⟩),.pointer (some ⟨w.heap.size+1,0,none⟩),.pointer (some ⟨w.heap.size+1+1,0,none⟩)])/\
  w'=((w.alloc (.cells V 39)).alloc (.cells #[.int .i64 p] 3)).alloc (.cells #[.int .i64 r] 3):=by
 obtain ⟨A0,n0,c0,A1,n1,c1,A2,n2,c2,A3,n3,c3,A4,n4,c4,rfl⟩:=hE;clear hV;go_enter Tryz.func87,Tryz.ntmps87
 go_wp2
 go_ret;exact ⟨rfl,rfl⟩
theorem xHC (n:Nat) (hn:1<=n) (A0 A1 A2 A3 A4:Option Addr) (n0 c0 c1 c2 c3 c4:Nat) (x1 x2 x3 x4:List (Int × Int)) (p r:Int) (bf bp br:Nat) (w:World)
 (h0:w.cell? ⟨bf,0,none⟩=some (.slice A0 n0 c0)) (h1:w.cell? ⟨bf,1,none⟩=some (.slice A1 x1.length c1)) (h2:w.cell? ⟨bf,2,none⟩=some (.slice A2 x2.length c2)) (h3:w.cell? ⟨bf,3,none⟩=some (.slice A3 x3.length c3)) (h4:w.cell? ⟨bf,4,none⟩=some (.slice A4 x4.length c4))
 (hp:w.cell? ⟨bp,0,none⟩=some (.int .i64 p)) (hr:w.cell? ⟨br,0,none⟩=some (.int .i64 r)):
 SeqL Fence.wide n Tryz.prog 136 #[.pointer (some ⟨bf,0,none⟩),.pointer (some ⟨bp,0,none⟩),.pointer (some ⟨br,0,none⟩)] encT (fun _=>false) (Pb bf bp br) [⟨A1,x1,c1,p,p⟩,⟨A2,x2,c2,n0,p⟩,⟨A3,x3,c3,n0,p⟩,⟨A4,x4,c4,r,p⟩] w:=by
 intro l J Jx W hW hJ hJx hY hJ0;have g0:=cM hW h0;have g1:=cM hW h1;have gp:=cM hW hp;have G2:=aF (cM hW h2);have G3:=aF (cM hW h3);have G4:=aF (cM hW h4);have GR:=aF (cM hW hr);clear h0 h1 h2 h3 h4 hp hr;(refine callsIn_of_wp Tryz.func136 rfl trivial ?_ rfl;simp only [Tryz.ntmps136,List.size_toArray,bK,bP,Nat.reduceAdd,Nat.reduceSub,Array.replicate_succ,Array.replicate_zero,List.push_toArray,List.append_toArray,List.nil_append,List.cons_append]);obtain ⟨fn,tmps,assign,body,hy,hR⟩:=hY [] ⟨A1,x1,c1,p,p⟩ [⟨A2,x2,c2,n0,p⟩,⟨A3,x3,c3,n0,p⟩,⟨A4,x4,c4,r,p⟩] W rfl hJ0;rw [show encT ⟨A1,x1,c1,p,p⟩ = #[.agg #[.slice A1 x1.length c1,.int .i64 p,.int .i64 p]] from rfl] at hy;gi_wp2
 refine hR.mono ?_;clear hy hR;rintro e W1 (⟨rfl,hJ1,hK1⟩ | ⟨rfl,hJx1⟩)
 case inr=>
  gi_wp2
  refine ⟨by simp,?_⟩;gi_wp2
  go_end0
  exact ⟨⟨_,rfl⟩,.inr ⟨[],_,_,rfl,hJx1⟩⟩
 have gp1:=eT hK1 (Or.inr (Or.inl rfl)) gp;have g2:=eT hK1 (Or.inl rfl) G2.out;have G3b:=aF (eT hK1 (Or.inl rfl) G3.out);have G4b:=aF (eT hK1 (Or.inl rfl) G4.out);have GRb:=aF (eT hK1 (Or.inr (Or.inr rfl)) GR.out);clear G2 G3 G4 GR g0 g1 gp hK1 hJ0;obtain ⟨fn,tmps,assign,body,hy,hR⟩:=hY _ ⟨A2,x2,c2,n0,p⟩ [⟨A3,x3,c3,n0,p⟩,⟨A4,x4,c4,r,p⟩] W1 rfl hJ1;rw [show encT ⟨A2,x2,c2,n0,p⟩ = #[.agg #[.slice A2 x2.length c2,.int .i64 n0,.int .i64 p]] from rfl] at hy;gi_wp2
 refine hR.mono ?_;clear hy hR;rintro e W2 (⟨rfl,hJ2,hK2⟩ | ⟨rfl,hJx2⟩)
 case inr=>
  gi_wp2
  refine ⟨by simp,?_⟩;gi_wp2
  go_end0
  exact ⟨⟨_,rfl⟩,.inr ⟨[_],_,_,rfl,hJx2⟩⟩
 have gp2:=eT hK2 (Or.inr (Or.inl rfl)) gp1;have g3:=eT hK2 (Or.inl rfl) G3b.out;have G4c:=aF (eT hK2 (Or.inl rfl) G4b.out);have GRc:=aF (eT hK2 (Or.inr (Or.inr rfl)) GRb.out);clear G3b G4b GRb g2 gp1 hK2 hJ1;obtain ⟨fn,tmps,assign,body,hy,hR⟩:=hY _ ⟨A3,x3,c3,n0,p⟩ [⟨A4,x4,c4,r,p⟩] W2 rfl hJ2;rw [show encT ⟨A3,x3,c3,n0,p⟩ = #[.agg #[.slice A3 x3.length c3,.int .i64 n0,.int .i64 p]] from rfl] at hy;gi_wp2
 refine hR.mono ?_;clear hy hR;rintro e W3 (⟨rfl,hJ3,hK3⟩ | ⟨rfl,hJx3⟩)
 case inr=>
  gi_wp2
  refine ⟨by simp,?_⟩;gi_wp2
  go_end0
  exact ⟨⟨_,rfl⟩,.inr ⟨[_,_],_,_,rfl,hJx3⟩⟩
 have gp3:=eT hK3 (Or.inr (Or.inl rfl)) gp2;have g4:=eT hK3 (Or.inl rfl) G4c.out;have gr:=eT hK3 (Or.inr (Or.inr rfl)) GRc.out;clear G4c GRc g3 gp2 hK3 hJ2;obtain ⟨fn,tmps,assign,body,hy,hR⟩:=hY _ ⟨A4,x4,c4,r,p⟩ [] W3 rfl hJ3;rw [show encT ⟨A4,x4,c4,r,p⟩ = #[.agg #[.slice A4 x4.length c4,.int .i64 r,.int .i64 p]] from rfl] at hy;gi_wp2
 refine hR.mono ?_;clear hy hR;rintro e W4 (⟨rfl,hJ4,_⟩ | ⟨rfl,hJx4⟩)
 ·gi_wp2
  go_end0
  exact ⟨⟨_,rfl⟩,.inl hJ4⟩
 ·gi_wp2
  go_end0
  exact ⟨⟨_,rfl⟩,.inr ⟨[_,_,_],_,_,rfl,hJx4⟩⟩
end
end Go.Proofs.YtmknfbfppmkcfaaGreatDoor
