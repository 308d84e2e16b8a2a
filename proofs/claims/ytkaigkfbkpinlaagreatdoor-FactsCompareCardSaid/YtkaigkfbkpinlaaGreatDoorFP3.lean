/-
  Parts of the proof: V1 V11 A1 Own F0 H1 H2 V12 Map V14 V4 W2 W13 V19.
-/
import Derived.Test.YtkaigkfbkpinlaaGreatDoorFP0
import Derived.Test.YtkaigkfbkpinlaaGreatDoorFP2
import Derived.Test.YtkaigkfbkpinlaaGreatDoorSg
import Derived.Test.YtkaigkfbkpinlaaGreatDoorFP1
import Derived.Lib.SliceRun
import Derived.Maps.OwnSet
import Derived.Maps.OwnOps
import Derived.StringKeys
namespace Go.Proofs.YtkaigkfbkpinlaaGreatDoor
set_option maxRecDepth 100000
set_option maxHeartbeats 16000000
section
open Go Go.RowKit
def isLet (c:UInt8):Bool:=decide (97<=c.toNat/\c.toNat<=122) || decide (65<=c.toNat/\c.toNat<=90) || decide (c.toNat=95)
def isDig (c:UInt8):Bool:=decide (48<=c.toNat/\c.toNat<=57)
def wL:List UInt8->Bool
 | []=>false
 | c :: r=>isLet c && r.all (fun c=>isLet c || isDig c) && decide (r.length<=254)
def isIdent (s:ByteArray):Bool:=wL s.data.toList
def memN (s:ByteArray) (l:List ByteArray):Bool:=l.any (fun x=>decide (x=s))
def namesE:List ByteArray->List ByteArray->Int
 | _,[]=>0
 | seen,s :: r=>if isIdent s=false then 12 else if memN s seen=true then 21 else namesE (s :: seen) r
def namesC (l:List ByteArray):Int:=if 65535<l.length then 15 else namesE [] l
def pairE (n:Int) (q:Option (Int × Int)) (p:Int × Int):Int:=
 if p.1<0\/p.2<0\/n<=p.1\/n<=p.2 then 3 else if p.1=p.2 then 2 else
  match q with
  | none=>0
  | some q=>if p.1<q.1\/(p.1=q.1/\p.2<=q.2) then 21 else 0
def pairsE (n:Int):Option (Int × Int)->List (Int × Int)->Int
 | _,[]=>0
 | q,p :: r=>if pairE n q p=0 then pairsE n (some p) r else pairE n q p
def pairsC (n:Int) (l:List (Int × Int)):Int:=if 65535<l.length then 15 else pairsE n none l
def depF (d:List Int):Int->List Int->Option Int
 | a,[]=>some a
 | a,i :: r=>if i<0 then none else match d[i.toNat]? with
   | none=>none
   | some x=>depF d (max a x) r
def tyE (prev:List Ty) (d:List Int) (n:Int) (t:Ty):Int × Int:=
 if t.kind<0\/4<t.kind then (14,0)
 else if (t.kind≠3/\(t.mu=true\/t.reg≠0\/t.elem≠0))\/(t.kind≠4/\0<t.flds.length) then (2,0)
 else if t.kind=3/\(t.reg<0\/n<=t.reg) then (3,0)
 else match depF d 0 (if t.kind=3 then [t.elem] else t.flds) with
  | none=>(3,0)
  | some k=>
    if t.kind=4/\(t.flds.length=0\/65535<t.flds.length) then (15,0)
    else if 32<=k then (19,0)
    else if t∈prev then (21,0)
    else (0,k+1)
def typesE (n:Int):List Ty->List Int->List Ty->Int
 | _,_,[]=>0
 | prev,d,t :: r=>if (tyE prev d n t).1=0 then typesE n (prev ++ [t]) (d ++ [(tyE prev d n t).2]) r else (tyE prev d n t).1
def typesC (n:Int) (l:List Ty):Int:=if 65535<l.length then 15 else typesE n [] [] l
def localsE (nt:Nat):List ByteArray->List Lc->Int
 | _,[]=>0
 | seen,x :: r=>if isIdent x.name=false then 12 else if memN x.name seen=true then 21 else if x.type<0\/(nt:Int)<=x.type then 3 else localsE nt (x.name :: seen) r
def localsC (b:Bdy):Int:=
 if 65535<b.locals.length then 15 else
  if localsE b.types.length [] b.locals=0 then (if b.args<0\/(b.locals.length:Int)<b.args then 3 else 0) else localsE b.types.length [] b.locals
def firstE:List Int->Int
 | []=>0
 | e :: r=>if e=0 then firstE r else e
def declC (b:Bdy):Int:=
 if isIdent b.name=false then 12
 else if firstE [namesC b.regions,pairsC b.regions.length b.outl,typesC b.regions.length b.types,localsC b]=0 then
  (if b.blocks.length=0\/65535<b.blocks.length then 15 else 0)
 else firstE [namesC b.regions,pairsC b.regions.length b.outl,typesC b.regions.length b.types,localsC b]
def zeroP (p:Plc):Bool:=decide (p.loc=0) && decide (p.proj.length=0)
def fail22 (b:Bool):Int:=if b=true then 22 else 0
def copF (ts:List Ty):Nat->Int->Bool
 | 0,_=>false
 | n+1,i=>if i<0 then false else match ts[i.toNat]? with
   | none=>false
   | some t=>if t.kind=3 then !t.mu else t.flds.all (copF ts n)
def copB (ts:List Ty) (i:Int):Bool:=copF ts (i.toNat+1) i
def nextR (pairs:List (Int × Int)) (x:Int):List Int->List Int
 | set=>pairs.foldl (fun s p=>if p.1=x/\p.2∉s then s ++ [p.2] else s) set
def outF (pairs:List (Int × Int)) (b:Int):Nat->List Int->Nat->Bool
 | 0,_,_=>false
 | f+1,set,i=>match set[i]? with
   | none=>false
   | some x=>if x=b then true else outF pairs b f (nextR pairs x set) (i+1)
def outB (pairs:List (Int × Int)) (n:Int) (a b:Int):Bool:=
 if a<0\/n<=a\/b<0\/n<=b then false else outF pairs b (n.toNat+1) [a] 0
def subF (pairs:List (Int × Int)) (n:Int) (ts:List Ty):Nat->Int->Int->Bool
 | 0,_,_=>false
 | f+1,s,t=>if s<0\/t<0 then false else match ts[s.toNat]?,ts[t.toNat]? with
   | some a,some b=>
     decide (a.kind=b.kind) && decide (a.mu=b.mu) && decide (a.flds.length=b.flds.length) && (a.flds.zip b.flds).all (fun p=>subF pairs n ts f p.1 p.2) &&
      (decide (a.kind≠3) || (outB pairs n a.reg b.reg && subF pairs n ts f a.elem b.elem && (!a.mu || subF pairs n ts f b.elem a.elem)))
   | _,_=>false
def subB (b:Bdy) (s t:Int):Bool:=subF b.outl b.regions.length b.types (s.toNat+t.toNat+1) s t
def tyB (b:Bdy) (p:Plc):Int × Int:=tyOf b.types b.locals p.loc p.proj
def mutB (b:Bdy) (p:Plc):Bool:=(refsOf b.types b.locals p.loc p.proj).2 && !(refsOf b.types b.locals p.loc p.proj).1.any notMu
def kindT (b:Bdy) (i:Int):Int:=((b.types[i.toNat]?).map (·.kind)).getD 0
def opE (b:Bdy) (o:Opd):Int:=
 if o.kind<0\/4<o.kind then 14
 else if (o.kind≠2/\o.kind≠3/\o.n≠0)\/(1<o.kind/\zeroP o.place=false) then 2
 else if o.kind=3/\o.n≠0/\o.n≠1 then 3
 else if 1<o.kind then 0
 else if (tyB b o.place).2≠0 then (tyB b o.place).2
 else if o.kind=0 then fail22 (!copB b.types (tyB b o.place).1) else fail22 (hasD o.place.proj 0)
def kindO (b:Bdy) (o:Opd):Int:=
 if o.kind=2 then 2 else if o.kind=3 then 1 else if o.kind=4 then 0 else kindT b (tyB b o.place).1
def fitsO (b:Bdy) (o:Opd) (t:Int):Bool:=
 if o.kind≠0/\o.kind≠1 then decide (kindO b o=kindT b t) else subB b (tyB b o.place).1 t
def opsE (b:Bdy):List Opd->List Int->Int
 | [],_=>0
 | o :: r,[]=>if opE b o=0 then opsE b r [] else opE b o
 | o :: r,f :: fs=>if opE b o=0 then (if fitsO b o f=true then opsE b r fs else 22) else opE b o
def unusedR (r:Rvl):Bool:=
 let plain:=decide (r.reg=0) && !r.mu && zeroP r.place
 if r.kind=0 then plain && decide (r.op=0) && decide (r.args.length=1)
 else if r.kind=1 then decide (r.op=0) && decide (r.args.length=0)
 else if r.kind=2 then plain && decide (r.args.length=1)
 else if r.kind=3 then plain && decide (r.args.length=2)
 else plain && decide (r.op=0)
def kN:List (Int × Int):=[(2,2),(1,1)]
def gW:List (Int × Int):=[(2,2),(2,2),(2,2),(2,1),(2,1),(1,1)]
def operE (b:Bdy) (r:Rvl) (t:Int) (tab:List (Int × Int)):Int:=
 if r.op<0\/(tab.length:Int)<=r.op then 14
 else if opsE b r.args []≠0 then opsE b r.args []
 else match tab[r.op.toNat]? with
  | none=>0
  | some x=>if r.args.all (fun o=>decide (kindO b o=x.1))=true then fail22 (decide (kindT b t≠x.2)) else 22
def borE (b:Bdy) (r:Rvl) (t:Int):Int:=
 if (tyB b r.place).2≠0 then (tyB b r.place).2
 else if r.reg<0\/(b.regions.length:Int)<=r.reg then 3
 else match b.types[t.toNat]? with
  | none=>0
  | some x=>
    if x.kind≠3\/x.reg≠r.reg\/x.mu≠r.mu\/x.elem≠(tyB b r.place).1 then 22
    else if r.mu=true/\mutB b r.place=false then 22
    else if (refsOf b.types b.locals r.place.loc r.place.proj).1.all (fun q=>outB b.outl b.regions.length q.reg r.reg)=true then 0 else 22
def rvE (b:Bdy) (r:Rvl) (t:Int):Int:=
 if r.kind<0\/4<r.kind then 14
 else if unusedR r=false then 2
 else if r.kind=0 then opsE b r.args [t]
 else if r.kind=1 then borE b r t
 else if r.kind=2 then operE b r t kN
 else if r.kind=3 then operE b r t gW
 else match b.types[t.toNat]? with
  | none=>0
  | some x=>if x.kind≠4\/x.flds.length≠r.args.length then 22 else opsE b r.args x.flds
def writE (b:Bdy) (p:Plc):Int:=if (tyB b p).2≠0 then (tyB b p).2 else fail22 (!mutB b p)
def dT (r:Rvl):Bool:=decide (r.kind=0) && decide (r.op=0) && decide (r.args.length=0) && decide (r.reg=0) && !r.mu && zeroP r.place
def stE (b:Bdy) (s:Stm):Int:=
 if s.kind=0 then
  (if s.loc≠0 then 2 else if writE b s.place≠0 then writE b s.place else rvE b s.rv (tyB b s.place).1)
 else if s.kind=1 then
  (if zeroP s.place=false\/dT s.rv=false then 2 else if s.loc<0\/(b.locals.length:Int)<=s.loc then 3 else 0)
 else if s.kind=2 then
  (if zeroP s.place=false\/dT s.rv=false\/s.loc≠0 then 2 else 0)
 else 14
def fieldsT (t:Trm):Bool:=
 if t.kind=0 then decide (t.targets.length=1) && decide (t.args.length=0) && zeroP t.place && decide (t.name.size=0)
 else if t.kind=1 then decide (t.targets.length=2) && decide (t.args.length=1) && zeroP t.place && decide (t.name.size=0)
 else if t.kind=3 then decide (t.targets.length=1)
 else if t.kind=4 then decide (t.targets.length=1) && decide (t.args.length=0) && decide (t.name.size=0)
 else decide (t.targets.length=0) && decide (t.args.length=0) && zeroP t.place && decide (t.name.size=0)
def tmE (b:Bdy) (t:Trm):Int:=
 if t.kind<0\/5<t.kind then 14
 else if fieldsT t=false then 2
 else if t.targets.all (fun k=>decide (0<=k/\k<(b.blocks.length:Int)))=false then 3
 else if t.kind=1 then
  (match t.args with
    | []=>0
    | o :: _=>if opE b o≠0 then opE b o else fail22 (decide (kindO b o≠1)))
 else if t.kind=3 then
  (if isIdent t.name=false then 12 else if 65535<t.args.length then 15 else if opsE b t.args []≠0 then opsE b t.args [] else writE b t.place)
 else if t.kind=4 then
  (if (tyB b t.place).2≠0 then (tyB b t.place).2 else fail22 (hasD t.place.proj 0))
 else 0
def stsE (b:Bdy):List Stm->Int
 | []=>0
 | s :: r=>if stE b s=0 then stsE b r else stE b s
def bkE (b:Bdy) (x:Blk):Int:=
 if 65535<x.stmts.length then 15 else if stsE b x.stmts≠0 then stsE b x.stmts else tmE b x.term
def bksE (b:Bdy):List Blk->Int
 | []=>0
 | x :: r=>if bkE b x=0 then bksE b r else bkE b x
def chkB (b:Bdy):Int:=if declC b=0 then bksE b b.blocks else declC b
def cmp2 (p q:Int × Int):Int:=if p.1<q.1 then -1 else if q.1<p.1 then 1 else if p.2<q.2 then -1 else if q.2<p.2 then 1 else 0
theorem xF (x y:Int):Lib.compareInt x y=if x<y then -1 else if y<x then 1 else 0:=by
 unfold Lib.compareInt;rfl
theorem xG (p q:Int × Int):(0<=cmp2 q p)↔(p.1<q.1\/(p.1=q.1/\p.2<=q.2)):=by
 unfold cmp2;split
 ·omega
 split
 ·omega
 split
 ·omega
 split <;> omega
theorem gB (p q:Int × Int) (b1 o1 b2 o2:Nat) (w:World) (h1:w.cell? ⟨b1,o1,none⟩=some (.int .i64 p.1)) (h2:w.cell? ⟨b1,o1+1,none⟩=some (.int .i64 p.2)) (h3:w.cell? ⟨b2,o2,none⟩=some (.int .i64 q.1)) (h4:w.cell? ⟨b2,o2+1,none⟩=some (.int .i64 q.2)):
 Calls Tryz.prog 36 #[.slice (some ⟨b1,o1,none⟩) 2 2,.slice (some ⟨b2,o2,none⟩) 2 2] w fun e' w'=>e' = .returned (.int .i64 (cmp2 p q))/\w'=w:=by
 obtain ⟨p1,p2⟩:=p;obtain ⟨q1,q2⟩:=q;simp only at *;obtain ⟨R,hR⟩:∃R,cmp2 (p1,p2) (q1,q2)=R:=⟨_,rfl⟩;rw [hR];have HC1:=aH (Tryz.cmp_Compare_int p1 q1 w);have HC2:=aH (Tryz.cmp_Compare_int p2 q2 w)
 have H1:Hid (Lib.compareInt p1 q1≠0->R=Lib.compareInt p1 q1):=aH (fun h=>by
  rw [<- hR];rw [xF] at h ⊢;unfold cmp2;split
  ·rfl
  split
  ·rfl
  ·simp_all)
 have H2:Hid (Lib.compareInt p1 q1=0->R=Lib.compareInt p2 q2):=aH (fun h=>by
  rw [<- hR];rw [xF] at h ⊢;unfold cmp2;split
  ·simp_all
  split
  ·simp_all
  ·rfl)
 generalize Lib.compareInt p1 q1=c1 at HC1 H1 H2;generalize Lib.compareInt p2 q2=c2 at HC2 H2;clear hR;go_enter Tryz.func36,Tryz.ntmps36
 go_wp2_with fail
 go_loop [11] (fun v=>∃k:Nat,k<=2/\v = .int .i64 k/\Hid (0<k->c1=0)/\Hid (k=2->R=0)) (fun v=>2 - (intOf v).toNat)
 case atStart=>exact ⟨0,by omega,rfl,aH (fun h=>absurd h (by omega)),aH (fun h=>absurd h (by omega))⟩
 case round=>
  obtain ⟨k,hk,rfl,hr,hr2⟩:=hrel;rcases (show k=0\/k=1\/k=2 by omega) with rfl | rfl | rfl
  ·by_cases hc:c1=0
   ·have e1:(c1 != 0)=false:=by simp [hc]
    have HC:=aH hc;clear hr hr2 hc;go_wp2_with (go_at_call 69;refine HC1.out.mono ?_;rintro e' w1 ⟨rfl,hw⟩;obtain rfl:=hw.symm)
    go_round
    case rel=>exact ⟨1,by omega,by go_num,aH (fun _=>HC.out),aH (fun h=>absurd h (by omega))⟩
    case measure=>simp [intOf]
   ·have e1:(c1 != 0)=true:=by simp [hc]
    have HF:=aH (H1.out hc);clear hr hr2 hc;go_wp2_with (go_at_call 69;refine HC1.out.mono ?_;rintro e' w1 ⟨rfl,hw⟩;obtain rfl:=hw.symm)
    go_ret;exact ⟨by rw [HF.out];rfl,rfl⟩
  ·have HF:=aH (H2.out (hr.out (by omega)));by_cases hc:c2=0
   ·have e1:(c2 != 0)=false:=by simp [hc]
    have HC:Hid (R=0):=aH (by rw [HF.out,hc]);clear hr2 hc;go_wp2_with (go_at_call 69;refine HC2.out.mono ?_;rintro e' w1 ⟨rfl,hw⟩;obtain rfl:=hw.symm)
    go_round
    case rel=>exact ⟨2,by omega,by go_num,aH (fun _=>hr.out (by omega)),aH (fun _=>HC.out)⟩
    case measure=>simp [intOf]
   ·have e1:(c2 != 0)=true:=by simp [hc]
    clear hr hr2 hc;go_wp2_with (go_at_call 69;refine HC2.out.mono ?_;rintro e' w1 ⟨rfl,hw⟩;obtain rfl:=hw.symm)
    go_ret;exact ⟨by rw [HF.out];rfl,rfl⟩
  ·have HF:=aH (hr2.out rfl);clear hr hr2;go_wp2_with fail
   go_ret;exact ⟨by rw [HF.out];rfl,rfl⟩
structure Ln where
 reg:Int
 pt:Int
 mu:Bool
 place:Plc
 deriving DecidableEq
structure Fct where
 loans:List Ln
 edges:List (Int × Int)
 killed:List (Int × Int)
 inval:List (Int × Int)
 live:List (Int × Int)
 deriving DecidableEq
def RLn:Rd Ln:=fun w B b o x=>w.cell? ⟨b,o,none⟩=some (.int .i64 x.reg)/\w.cell? ⟨b,o+1,none⟩=some (.int .i64 x.pt)/\w.cell? ⟨b,o+2,none⟩=some (.bool x.mu)/\RPl w B b (o+3) x.place
theorem RLn.keeps:RLn.Keeps:=fun w w' B B' b o _x hB hlt hb ⟨h0,h1,h2,h3⟩=>
 ⟨(hb.cell (p:=⟨b,o,none⟩) hlt).trans h0,(hb.cell (p:=⟨b,o+1,none⟩) hlt).trans h1,(hb.cell (p:=⟨b,o+2,none⟩) hlt).trans h2,RPl.keeps w w' B B' b _ _ hB hlt hb h3⟩
structure FH where
 A0:Option Addr
 c0:Nat
 A1:Option Addr
 c1:Nat
 A2:Option Addr
 c2:Nat
 A3:Option Addr
 c3:Nat
 A4:Option Addr
 c4:Nat
def fcC (f:Fct) (h:FH):List Value:=[.slice h.A0 f.loans.length h.c0,.slice h.A1 f.edges.length h.c1,.slice h.A2 f.killed.length h.c2,.slice h.A3 f.inval.length h.c3,.slice h.A4 f.live.length h.c4]
structure FcAt (w:World) (f:Fct) (h:FH):Prop where
 ln:Slc 5 RLn w h.A0 h.c0 f.loans
 ed:Slc 2 RPr w h.A1 h.c1 f.edges
 ki:Slc 2 RPr w h.A2 h.c2 f.killed
 iv:Slc 2 RPr w h.A3 h.c3 f.inval
 li:Slc 2 RPr w h.A4 h.c4 f.live
theorem FcAt.keep {w w':World} {f:Fct} {h:FH} (H:FcAt w f h) (hb:Below w.heap.size w w'):FcAt w' f h:=
 ⟨H.ln.keep RLn.keeps hb,H.ed.keep RPr.keeps hb,H.ki.keep RPr.keeps hb,H.iv.keep RPr.keeps hb,H.li.keep RPr.keeps hb⟩
def loE (p r:Int) (q:Option Ln) (l:Ln):Int:=
 if l.reg<0\/r<=l.reg\/l.pt<0\/p<=l.pt then 3
 else if chk l.place.loc l.place.proj≠0 then chk l.place.loc l.place.proj
 else match q with
  | none=>0
  | some k=>if l.pt<=k.pt then 21 else 0
def losE (p r:Int):Option Ln->List Ln->Int
 | _,[]=>0
 | q,l :: xs=>if loE p r q l=0 then losE p r (some l) xs else loE p r q l
def prE (f s:Int) (q:Option (Int × Int)) (x:Int × Int):Int:=
 if x.1<0\/f<=x.1\/x.2<0\/s<=x.2 then 3
 else match q with
  | none=>0
  | some k=>if 0<=cmp2 k x then 21 else 0
def prsE (f s:Int):Option (Int × Int)->List (Int × Int)->Int
 | _,[]=>0
 | q,x :: xs=>if prE f s q x=0 then prsE f s (some x) xs else prE f s q x
structure Tb where
 A:Option Addr
 xs:List (Int × Int)
 c:Nat
 f:Int
 s:Int
def tbE:List Tb->Int
 | []=>0
 | t :: ts=>if prsE t.f t.s none t.xs=0 then tbE ts else prsE t.f t.s none t.xs
def tbsOf (f:Fct) (h:FH) (p r:Int):List Tb:=[⟨h.A1,f.edges,h.c1,p,p⟩,⟨h.A2,f.killed,h.c2,f.loans.length,p⟩,⟨h.A3,f.inval,h.c3,f.loans.length,p⟩,⟨h.A4,f.live,h.c4,r,p⟩]
def fcBig (f:Fct):Prop:=16777216<f.loans.length\/16777216<f.edges.length\/16777216<f.killed.length\/16777216<f.inval.length\/16777216<f.live.length
instance (f:Fct):Decidable (fcBig f):=by unfold fcBig;exact inferInstance
def fctE (f:Fct) (p r:Int):Int:=
 if fcBig f then 15
 else if losE p r none f.loans≠0 then losE p r none f.loans
 else if prsE p p none f.edges≠0 then prsE p p none f.edges
 else if prsE f.loans.length p none f.killed≠0 then prsE f.loans.length p none f.killed
 else if prsE f.loans.length p none f.inval≠0 then prsE f.loans.length p none f.inval
 else prsE r p none f.live
theorem xDG {f:Fct} {h:FH} {p r:Int} (hb:¬fcBig f) (hl:losE p r none f.loans=0):fctE f p r=tbE (tbsOf f h p r):=by
 unfold fctE tbsOf tbE tbE tbE tbE tbE;rw [bB hb,bB (fun e=>e hl)];simp only [ite_not];split
 ·split
  ·split
   ·split
    ·assumption
    ·rfl
   ·rfl
  ·rfl
 ·rfl
theorem oZ (p r:Int) (q:Option Ln) (l:Ln) (xs:List Ln):losE p r q (l :: xs)=if loE p r q l=0 then losE p r (some l) xs else loE p r q l:=rfl
theorem oN (f s:Int) (q:Option (Int × Int)) (x:Int × Int) (xs:List (Int × Int)):prsE f s q (x :: xs)=if prE f s q x=0 then prsE f s (some x) xs else prE f s q x:=rfl
theorem lS {p r:Int} {q:Option Ln} {l:Ln} (h:l.reg<0\/r<=l.reg\/l.pt<0\/p<=l.pt):loE p r q l=3:=by unfold loE;rw [bD h]
theorem vW {p r:Int} {q:Option Ln} {l:Ln} (h:¬(l.reg<0\/r<=l.reg\/l.pt<0\/p<=l.pt)) (h2:chk l.place.loc l.place.proj≠0):loE p r q l=chk l.place.loc l.place.proj:=by unfold loE;rw [bB h,bD h2]
theorem rW {p r:Int} {l:Ln} (h:¬(l.reg<0\/r<=l.reg\/l.pt<0\/p<=l.pt)) (h2:chk l.place.loc l.place.proj=0):loE p r none l=0:=by unfold loE;rw [bB h,bB (fun e=>e h2)]
theorem rV {p r:Int} {k l:Ln} (h:¬(l.reg<0\/r<=l.reg\/l.pt<0\/p<=l.pt)) (h2:chk l.place.loc l.place.proj=0):loE p r (some k) l=if l.pt<=k.pt then 21 else 0:=by unfold loE;rw [bB h,bB (fun e=>e h2)]
theorem lG {f s:Int} {q:Option (Int × Int)} {x:Int × Int} (h:x.1<0\/f<=x.1\/x.2<0\/s<=x.2):prE f s q x=3:=by unfold prE;rw [bD h]
theorem rG {f s:Int} {x:Int × Int} (h:¬(x.1<0\/f<=x.1\/x.2<0\/s<=x.2)):prE f s none x=0:=by unfold prE;rw [bB h]
theorem rF {f s:Int} {k x:Int × Int} (h:¬(x.1<0\/f<=x.1\/x.2<0\/s<=x.2)):prE f s (some k) x=if 0<=cmp2 k x then 21 else 0:=by unfold prE;rw [bB h]
def prevL {α : Type} (l:List α) (k:Nat):Option α := if k=0 then none else l[k - 1]?
theorem cR {X:World} {n:Nat} {l:List Value} {T:TypeId} (h:X.heap[n]?=some (.cells l.toArray T (0,0))):∀i v,l[i]?=some v->X.cell? ⟨n,i,none⟩=some v:=fun i v hi=>by
 simp [World.cell?,h,hi]
theorem gF {X:World} {n:Nat} {v u:Value} {T:TypeId} (h:X.heap[n]?=some (.cells #[v] T (0,0))):(X.setCell ⟨n,0,none⟩ u).heap[n]?=some (.cells #[u] T (0,0)):=by
 simp [World.setCell,Array.getElem?_modify,h]
theorem gR {α : Type} {enc : α -> Value} {R:Rd α} (hR:∀(w:World) (B b o:Nat) (x : α),w.cell? ⟨b,o,none⟩=some (enc x)->R w B b o x) {w:World} {base n:Nat} {e:TypeId} {v:Value} {xs:List α}
 (h:w.ownsRow base e 1 v n (xs.map enc)) (hn:xs.length=n):∃A c,v = .slice A n c/\Slc 1 R w A c xs/\(∀a,A=some a->base<=a.block/\a.block<w.heap.size):=by
 subst hn;have h0:=h;rcases h.2 with ⟨rfl,hz⟩ | ⟨g,cap,cur,rfl,hg,hh,hnc,hm,_,_⟩
 ·have:xs=[]:=List.length_eq_zero_iff.1 (by omega);subst this;exact ⟨none,0,rfl,⟨Sl.nil,by simp,by omega⟩,fun a h=>by cases h⟩
 ·have hgl:=(Array.getElem?_eq_some_iff.1 hh).1;refine ⟨some ⟨g,0,none⟩,cap,rfl,⟨fun _=>⟨g,0,rfl,hgl,fun i x hx=>?_⟩,by simpa using hnc,by simp only [maxLen] at hm;omega⟩,fun a ha=>?_⟩
  ·have hc:=h0.cells (g:=g) rfl i (enc x) (by rw [cP,hx];rfl);rw [add0] at hc;exact hR w _ g _ x (by simpa using hc)
  ·injection ha with ha
   subst ha;exact ⟨hg,hgl⟩
theorem cW {X:World} {b m n:Nat} {e:TypeId} {v:Value} {xs:List Value} (h:X.ownsRow b e m v n xs):∃A c,v = .slice A n c:=by
 rcases h.2 with ⟨h1,h2⟩ | ⟨g',cap,cur,h1,_⟩
 ·exact ⟨none,0,by rw [h1,h2]⟩
 ·exact ⟨_,cap,h1⟩
theorem alF (w:World) (o:Obj):Below w.heap.size w (w.alloc o):=(aZ _ _).alloc (bA _) _
def szN (s:ByteArray):Nat:=min s.size 9000
def sumN (l:List ByteArray):Nat:=(l.map (fun s=>1+szN s)).sum
theorem fR (w:World) (cs:List Value) (t:TypeId) (j:Nat) (u:Value) (h:cs[j]?=some u):(w.alloc (.cells cs.toArray t)).cell? ⟨w.heap.size,j,none⟩=some u:=by
 rw [World.cell?_alloc_at _ _ _ _ (by simp)];simpa using h
end
section
open Go Go.RowKit
attribute [local irreducible] Calls
theorem xDB:(Tryz.prog.info? 40).map (fun i=>(i.zero,i.size,i.bytes))=some (some (.agg #[.int .i64 0,.int .i64 0]),2,16):=by kernel_rfl
theorem lY (n:Nat) (xs:List Value) (A:Option Addr) (c:Nat) (w:World) (hn:xs.length=n * 2) (hu:∀u∈xs,u.oneCell'=true) (hx:∀a,A=some a->∀(j:Nat) (u:Value),xs[j]?=some u->w.cell? (a.add j)=some u) (h0:A=none->n=0) (hc:n<=c/\c<=9223372036854775807) (hl:n<=1000000):
 Calls Tryz.prog 44 #[.slice A n c] w fun e' w'=>∃v,e' = .returned v/\w'.ownsRow w.heap.size 40 2 v n xs/\Below w.heap.size w w':=by
 obtain ⟨i0,hi,hz0,hz1,hz2⟩:=info_parts xDB;have q22:∀(w:World) (a:Option Addr) (n c n' c':Nat),(binOp .eql 34 (.slice a n c) (.slice none n' c')).run Tryz.prog w = .ok (.bool a.isNone) w:=fun w a n c n' c'=>Lib.run_eql_slice_nil w _ _ a n c n' c' Tryz.underlying34
 cases A with
 | none=>
   have hn0:=h0 rfl;subst hn0;have:xs=[]:=List.length_eq_zero_iff.1 (by omega);subst this;clear hx h0 hu hn;go_enter Tryz.func44,Tryz.ntmps44
   go_wp2
   go_ret;exact ⟨_,rfl,World.ownsRow_nil _ _ _ _,aZ _ _⟩
 | some a=>
   have hle:=hc.1;have hbg:=hc.2;have HA:Hid (∀(j:Nat) (u:Value),xs[j]?=some u->(w.alloc (.cells #[] 40)).cell? (a.add j)=some u):=aH (fun j u hj=>cQ (alF _ _) (hx a rfl j u hj));have HU:=aH hu;have HN:=aH hn;clear hx h0 hc hu hn;go_enter Tryz.func44,Tryz.ntmps44
   go_wp2_with (at_builtin;refine wpList_append_own _ rfl _ _ 34 rfl w.heap.size 40 i0 (.agg #[.int .i64 0,.int .i64 0]) 2 16 Tryz.underlying34 hi hz0 hz1 hz2 rfl (by decide) _ _ _ rfl (World.ownsRow_made w #[] 0 (bA _) (Nat.zero_le _) rfl) a n c xs rfl ?qc1 ?qc2 ?qc3 ?qc4 ?qc5 ?qc6 ?_)
   case qc1=>exact HN.out
   case qc2=>exact HA.out
   case qc3=>exact HU.out
   case qc4=>unfold maxLen;omega
   case qc5=>omega
   case qc6=>first | (simp;done) | (simp;omega)
   intro v' w1 hown hgrow hnil;have hown2:w1.ownsRow w.heap.size 40 2 v' n xs:=by simpa using hown
   have HO:=aH hown2;obtain ⟨A',c',rfl⟩:=cW hown2;have HBel:Hid (Below w.heap.size w w1):=aH ((alF _ _).grown hgrow (by simp) (by intro k hk;simp [Value.ownBlock] at hk;omega));clear hown hown2 hgrow hnil;go_wp2
   go_ret;exact ⟨_,rfl,HO.out,HBel.out⟩
theorem wI:(Tryz.prog.info? 42).map (fun i=>(i.zero,i.size,i.bytes))=some (some (.agg #[.int .i64 0,.int .i64 0]),2,16):=by kernel_rfl
theorem qK (n:Nat) (xs:List Value) (A:Option Addr) (c:Nat) (w:World) (hn:xs.length=n * 2) (hu:∀u∈xs,u.oneCell'=true) (hx:∀a,A=some a->∀(j:Nat) (u:Value),xs[j]?=some u->w.cell? (a.add j)=some u) (h0:A=none->n=0) (hc:n<=c/\c<=9223372036854775807) (hl:n<=1000000):
 Calls Tryz.prog 45 #[.slice A n c] w fun e' w'=>∃v,e' = .returned v/\w'.ownsRow w.heap.size 42 2 v n xs/\Below w.heap.size w w':=by
 obtain ⟨i0,hi,hz0,hz1,hz2⟩:=info_parts wI;have q22:∀(w:World) (a:Option Addr) (n c n' c':Nat),(binOp .eql 23 (.slice a n c) (.slice none n' c')).run Tryz.prog w = .ok (.bool a.isNone) w:=fun w a n c n' c'=>Lib.run_eql_slice_nil w _ _ a n c n' c' Tryz.underlying23
 cases A with
 | none=>
   have hn0:=h0 rfl;subst hn0;have:xs=[]:=List.length_eq_zero_iff.1 (by omega);subst this;clear hx h0 hu hn;go_enter Tryz.func45,Tryz.ntmps45
   go_wp2
   go_ret;exact ⟨_,rfl,World.ownsRow_nil _ _ _ _,aZ _ _⟩
 | some a=>
   have hle:=hc.1;have hbg:=hc.2;have HA:Hid (∀(j:Nat) (u:Value),xs[j]?=some u->(w.alloc (.cells #[] 42)).cell? (a.add j)=some u):=aH (fun j u hj=>cQ (alF _ _) (hx a rfl j u hj));have HU:=aH hu;have HN:=aH hn;clear hx h0 hc hu hn;go_enter Tryz.func45,Tryz.ntmps45
   go_wp2_with (at_builtin;refine wpList_append_own _ rfl _ _ 23 rfl w.heap.size 42 i0 (.agg #[.int .i64 0,.int .i64 0]) 2 16 Tryz.underlying23 hi hz0 hz1 hz2 rfl (by decide) _ _ _ rfl (World.ownsRow_made w #[] 0 (bA _) (Nat.zero_le _) rfl) a n c xs rfl ?qc1 ?qc2 ?qc3 ?qc4 ?qc5 ?qc6 ?_)
   case qc1=>exact HN.out
   case qc2=>exact HA.out
   case qc3=>exact HU.out
   case qc4=>unfold maxLen;omega
   case qc5=>omega
   case qc6=>first | (simp;done) | (simp;omega)
   intro v' w1 hown hgrow hnil;have hown2:w1.ownsRow w.heap.size 42 2 v' n xs:=by simpa using hown
   have HO:=aH hown2;obtain ⟨A',c',rfl⟩:=cW hown2;have HBel:Hid (Below w.heap.size w w1):=aH ((alF _ _).grown hgrow (by simp) (by intro k hk;simp [Value.ownBlock] at hk;omega));clear hown hown2 hgrow hnil;go_wp2
   go_ret;exact ⟨_,rfl,HO.out,HBel.out⟩
theorem wJ:(Tryz.prog.info? 38).map (fun i=>(i.zero,i.size,i.bytes))=some (some (.agg #[.int .i64 0,.int .i64 0,.bool false,.int .i64 0,.slice none 0 0]),5,56):=by kernel_rfl
theorem qL (n:Nat) (xs:List Value) (A:Option Addr) (c:Nat) (w:World) (hn:xs.length=n * 5) (hu:∀u∈xs,u.oneCell'=true) (hx:∀a,A=some a->∀(j:Nat) (u:Value),xs[j]?=some u->w.cell? (a.add j)=some u) (h0:A=none->n=0) (hc:n<=c/\c<=9223372036854775807) (hl:n<=1000000):
 Calls Tryz.prog 43 #[.slice A n c] w fun e' w'=>∃v,e' = .returned v/\w'.ownsRow w.heap.size 38 5 v n xs/\Below w.heap.size w w':=by
 obtain ⟨i0,hi,hz0,hz1,hz2⟩:=info_parts wJ;have q22:∀(w:World) (a:Option Addr) (n c n' c':Nat),(binOp .eql 22 (.slice a n c) (.slice none n' c')).run Tryz.prog w = .ok (.bool a.isNone) w:=fun w a n c n' c'=>Lib.run_eql_slice_nil w _ _ a n c n' c' Tryz.underlying22
 cases A with
 | none=>
   have hn0:=h0 rfl;subst hn0;have:xs=[]:=List.length_eq_zero_iff.1 (by omega);subst this;clear hx h0 hu hn;go_enter Tryz.func43,Tryz.ntmps43
   go_wp2
   go_ret;exact ⟨_,rfl,World.ownsRow_nil _ _ _ _,aZ _ _⟩
 | some a=>
   have hle:=hc.1;have hbg:=hc.2;have HA:Hid (∀(j:Nat) (u:Value),xs[j]?=some u->(w.alloc (.cells #[] 38)).cell? (a.add j)=some u):=aH (fun j u hj=>cQ (alF _ _) (hx a rfl j u hj));have HU:=aH hu;have HN:=aH hn;clear hx h0 hc hu hn;go_enter Tryz.func43,Tryz.ntmps43
   go_wp2_with (at_builtin;refine wpList_append_own _ rfl _ _ 22 rfl w.heap.size 38 i0 (.agg #[.int .i64 0,.int .i64 0,.bool false,.int .i64 0,.slice none 0 0]) 5 56 Tryz.underlying22 hi hz0 hz1 hz2 rfl (by decide) _ _ _ rfl (World.ownsRow_made w #[] 0 (bA _) (Nat.zero_le _) rfl) a n c xs rfl ?qc1 ?qc2 ?qc3 ?qc4 ?qc5 ?qc6 ?_)
   case qc1=>exact HN.out
   case qc2=>exact HA.out
   case qc3=>exact HU.out
   case qc4=>unfold maxLen;omega
   case qc5=>omega
   case qc6=>first | (simp;done) | (simp;omega)
   intro v' w1 hown hgrow hnil;have hown2:w1.ownsRow w.heap.size 38 5 v' n xs:=by simpa using hown
   have HO:=aH hown2;obtain ⟨A',c',rfl⟩:=cW hown2;have HBel:Hid (Below w.heap.size w w1):=aH ((alF _ _).grown hgrow (by simp) (by intro k hk;simp [Value.ownBlock] at hk;omega));clear hown hown2 hgrow hnil;go_wp2
   go_ret;exact ⟨_,rfl,HO.out,HBel.out⟩
end
section
open Go Go.RowKit
def stB (bs:List Blk) (i:Nat):Nat:=((bs.take i).map (fun x=>x.stmts.length+1)).sum
def cntB (bs:List Blk):Nat:=stB bs bs.length
theorem stB_zero (bs:List Blk):stB bs 0=0:=by simp [stB]
theorem eP {bs:List Blk} {i:Nat} {x:Blk} (h:bs[i]?=some x):stB bs (i+1)=stB bs i+(x.stmts.length+1):=by
 unfold stB;rw [List.take_add_one,h];simp
theorem yR (bs:List Blk) (i:Nat):stB bs i<=stB bs (i+1):=by
 cases h:bs[i]? with
 | none=>unfold stB;rw [List.take_add_one,h];simp
 | some x=>rw [eP h];omega
theorem nF (bs:List Blk) {i j:Nat} (h:i<=j):stB bs i<=stB bs j:=by
 induction j with
 | zero=>rw [Nat.le_zero.1 h];exact bA _
 | succ j ih=>
   rcases Nat.lt_or_ge i (j+1) with h1 | h1
   ·exact cA (ih (by omega)) (yR bs j)
   ·rw [show i=j+1 by omega];exact bA _
theorem uE {bs:List Blk} {i j:Nat} {x:Blk} (h:bs[i]?=some x) (hij:i<j):stB bs i+x.stmts.length<stB bs j:=by
 have:=nF bs (show i+1<=j by omega);rw [eP h] at this;omega
theorem iO {bs:List Blk} {i:Nat} {x:Blk} (h:bs[i]?=some x):stB bs i+x.stmts.length<cntB bs:=
 uE h (List.getElem?_eq_some_iff.1 h).1
def locP (bs:List Blk) (p:Int) (i k:Nat):Prop:=∃x,bs[i]?=some x/\k<=x.stmts.length/\p=(stB bs i+k:Nat)
def locB (bs:List Blk) (p:Int):Option (Nat × Nat):=
 match (List.range bs.length).find? (fun i=>decide ((stB bs i:Int)<=p/\p<(stB bs (i+1):Int))) with
 | none=>none
 | some i=>some (i,(p - stB bs i).toNat)
theorem vT {bs:List Blk} {p:Int} {i k i' k':Nat} (h:locP bs p i k) (h':locP bs p i' k'):i=i'/\k=k':=by
 obtain ⟨x,h1,h2,h3⟩:=h;obtain ⟨y,g1,g2,g3⟩:=h'
 have:i=i':=by
  rcases Nat.lt_trichotomy i i' with e | e | e
  ·have:=uE h1 e;omega
  ·exact e
  ·have:=uE g1 e;omega
 subst this;exact ⟨rfl,by omega⟩
theorem dP {bs:List Blk} {p:Int} {i k:Nat}:locB bs p=some (i,k)↔locP bs p i k:=by
 have fwd:∀i k,locB bs p=some (i,k)->locP bs p i k:=fun i k h=>by
  unfold locB at h;split at h
  ·cases h
  ·rename_i j hj;injection h with h
   injection h with h1 h2
   subst h1;have h3:=List.find?_some hj;have h4:=List.mem_of_find?_eq_some hj;rw [List.mem_range] at h4;rw [decide_eq_true_eq] at h3;have h5:=bF h4;rw [eP h5] at h3;exact ⟨_,h5,by omega,by omega⟩
 refine ⟨fwd i k,fun h=>?_⟩;cases e:locB bs p with
 | some q=>
   obtain ⟨rfl,rfl⟩:=vT (fwd q.1 q.2 e) h;rfl
 | none=>
   exfalso;unfold locB at e;split at e
   ·rename_i hn;obtain ⟨x,h1,h2,h3⟩:=h;rw [List.find?_eq_none] at hn;refine hn i (List.mem_range.2 (List.getElem?_eq_some_iff.1 h1).1) ?_;rw [decide_eq_true_eq,eP h1];omega
   ·cases e
theorem nL {bs:List Blk} {p:Int} {q:Nat × Nat} (h:locB bs p=some q):0<=p/\p<cntB bs:=by
 obtain ⟨x,h1,h2,h3⟩:=dP.1 h;have:=iO h1;omega
theorem mN {bs:List Blk} {p:Int} (h0:0<=p) (h1:p<cntB bs):∃q,locB bs p=some q:=by
 have:∀n,n<=bs.length->p<stB bs n->∃i k,locP bs p i k:=by
  intro n;induction n with
  | zero=>intro _ h;rw [stB_zero] at h;omega
  | succ n ih=>
    intro hn h;by_cases e:p<stB bs n
    ·exact ih (by omega) e
    ·have h5:=bF (show n<bs.length by omega);rw [eP h5] at h;exact ⟨n,(p - stB bs n).toNat,_,h5,by omega,by omega⟩
 obtain ⟨i,k,h⟩:=this _ (bA _) h1;exact ⟨_,dP.2 h⟩
theorem pA {bs:List Blk} {p:Int} (h:p<0\/(cntB bs:Int)<=p):locB bs p=none:=by
 cases e:locB bs p with
 | none=>rfl
 | some q=>have:=nL e;omega
def Srt (s:List Int) (P:Int->Prop):Prop:=s.Pairwise (· < ·)/\∀x,x∈s↔P x
theorem qW:∀{s t:List Int},s.Pairwise (· < ·)->t.Pairwise (· < ·)->(∀x,x∈s↔x∈t)->s=t
 | [],[],_,_,_=>rfl
 | [],y :: t,_,_,h=>absurd ((h y).2 (by simp)) (by simp)
 | x :: s,[],_,_,h=>absurd ((h x).1 (by simp)) (by simp)
 | x :: s,y :: t,h1,h2,h=>by
   rw [List.pairwise_cons] at h1 h2
   have hxy:x=y:=by
    rcases List.mem_cons.1 ((h x).1 (by simp)) with e | e
    ·exact e
    ·rcases List.mem_cons.1 ((h y).2 (by simp)) with e' | e'
     ·exact e'.symm
     ·have:=h1.1 y e';have:=h2.1 x e;omega
   subst hxy;rw [qW h1.2 h2.2 (fun z=>?_)];constructor
   ·intro hz;rcases List.mem_cons.1 ((h z).1 (by simp [hz])) with e | e
    ·subst e;exact absurd (h1.1 z hz) (by omega)
    ·exact e
   ·intro hz;rcases List.mem_cons.1 ((h z).2 (by simp [hz])) with e | e
    ·subst e;exact absurd (h2.1 z hz) (by omega)
    ·exact e
theorem Srt.uniq {s t:List Int} {P:Int->Prop} (h:Srt s P) (k:Srt t P):s=t:=qW h.1 k.1 (fun x=>(h.2 x).trans (k.2 x).symm)
theorem Srt.iff {s:List Int} {P Q:Int->Prop} (h:Srt s P) (e:∀x,P x↔Q x):Srt s Q:=⟨h.1,fun x=>(h.2 x).trans (e x)⟩
theorem Srt.nodup {s:List Int} {P:Int->Prop} (h:Srt s P):s.Nodup:=h.1.imp (fun h=>Int.ne_of_lt h)
def folP (bs:List Blk) (p q:Int):Prop:=∃i k x,locB bs p=some (i,k)/\bs[i]?=some x/\
 if k<x.stmts.length then q=p+1 else ∃t∈x.term.targets,0<=t/\t<(bs.length:Int)/\q=stB bs t.toNat
theorem fX {bs:List Blk} {p q:Int} (h:folP bs p q):0<=p/\p<cntB bs/\0<=q/\q<cntB bs:=by
 obtain ⟨i,k,x,h1,h2,h3⟩:=h;obtain ⟨a,b⟩:=nL h1;obtain ⟨y,g1,g2,g3⟩:=dP.1 h1;rw [h2] at g1;injection g1 with g1
 subst g1;have hc:=iO h2;refine ⟨a,b,?_⟩;split at h3
 ·omega
 ·obtain ⟨t,ht,t0,t1,rfl⟩:=h3;have:=iO (bF (show t.toNat<bs.length by omega));omega
def opU (l:List Opd):List Int:=(l.filter (fun o=>decide (o.kind=0\/o.kind=1))).map (·.place.loc)
def ifU (c:Prop) [Decidable c] (x:Int):List Int:=if c then [x] else []
def usS (s:Stm):List Int:=if s.kind=0 then opU s.rv.args ++ ifU (s.rv.kind=1) s.rv.place.loc ++ ifU (0<s.place.proj.length) s.place.loc else []
def usT (t:Trm):List Int:=opU t.args ++ ifU (t.kind=4\/(t.kind=3/\0<t.place.proj.length)) t.place.loc
def usB (x:Blk) (k:Nat):List Int:=
 match x.stmts[k]? with
 | some s=>usS s
 | none=>usT x.term
def dfS (s:Stm):Option Int:=if s.kind=0 then (if s.place.proj.length=0 then some s.place.loc else none) else if s.kind=1 then some s.loc else none
def dfT (t:Trm):Option Int:=if t.kind=3/\t.place.proj.length=0 then some t.place.loc else none
def dfB (x:Blk) (k:Nat):Option Int:=
 match x.stmts[k]? with
 | some s=>dfS s
 | none=>dfT x.term
def usP (bs:List Blk) (p:Int):List Int:=
 match locB bs p with
 | none=>[]
 | some (i,k)=>match bs[i]? with
   | none=>[]
   | some x=>usB x k
def dfP (bs:List Blk) (p:Int):Option Int:=
 match locB bs p with
 | none=>none
 | some (i,k)=>match bs[i]? with
   | none=>none
   | some x=>dfB x k
theorem xBF {bs:List Blk} {p:Int} {i k:Nat} {x:Blk} (h:locB bs p=some (i,k)) (hx:bs[i]?=some x):usP bs p=usB x k:=by unfold usP;rw [h];simp only [hx]
theorem jX {bs:List Blk} {p:Int} (h:locB bs p=none):usP bs p=[]:=by unfold usP;rw [h]
theorem xBT {bs:List Blk} {p:Int} {i k:Nat} {x:Blk} (h:locB bs p=some (i,k)) (hx:bs[i]?=some x):dfP bs p=dfB x k:=by unfold dfP;rw [h];simp only [hx]
theorem xAL {bs:List Blk} {p:Int} (h:locB bs p=none):dfP bs p=none:=by unfold dfP;rw [h]
theorem vU {bs:List Blk} {p:Int} {i k:Nat} (h:locB bs p=some (i,k)):∃x,bs[i]?=some x/\k<=x.stmts.length/\i<bs.length:=by
 obtain ⟨x,h1,h2,_⟩:=dP.1 h;exact ⟨x,h1,h2,(List.getElem?_eq_some_iff.1 h1).1⟩
inductive Lv (bs:List Blk) (x:Int):Int->Prop
 | use {p:Int}:x∈usP bs p->Lv bs x p
 | step {p q:Int}:folP bs p q->dfP bs p≠some x->Lv bs x q->Lv bs x p
theorem Lv.iff {bs:List Blk} {x p:Int}:Lv bs x p↔x∈usP bs p\/(∃q,folP bs p q/\Lv bs x q)/\dfP bs p≠some x:=
 ⟨fun h=>by
   cases h with
   | use h=>exact .inl h
   | step h1 h2 h3=>exact .inr ⟨⟨_,h1,h3⟩,h2⟩,
  fun h=>h.elim .use fun ⟨⟨_,h1,h3⟩,h2⟩=> .step h1 h2 h3⟩
theorem Lv.none {bs:List Blk} {x:Int} {S:Int->Prop} (h:∀p,S p->x∉usP bs p/\(dfP bs p≠some x->∀q,folP bs p q->S q)) {p:Int} (hl:Lv bs x p):¬S p:=by
 induction hl with
 | use hu=>exact fun hs=>(h _ hs).1 hu
 | step h1 h2 _ ih=>exact fun hs=>ih ((h _ hs).2 h2 _ h1)
theorem Lv.least {bs:List Blk} {L:Int->Int->Prop} (h1:∀p x,x∈usP bs p->L p x) (h2:∀p q x,L q x->folP bs p q->dfP bs p≠some x->L p x) {x p:Int} (hl:Lv bs x p):L p x:=by
 induction hl with
 | use hu=>exact h1 _ _ hu
 | step g1 g2 _ ih=>exact h2 _ _ _ ih g1 g2
theorem Lv.lt {bs:List Blk} {x p:Int} (h:Lv bs x p):0<=p/\p<cntB bs:=by
 cases h with
 | use h=>
   cases e:locB bs p with
   | none=>rw [jX e] at h;cases h
   | some q=>exact nL e
 | step h1 h2 h3=>exact ⟨(fX h1).1,(fX h1).2.1⟩
theorem Lv.used {bs:List Blk} {x p:Int} (h:Lv bs x p):∃q,x∈usP bs q:=by
 induction h with
 | use h=>exact ⟨_,h⟩
 | step _ _ _ ih=>exact ih
theorem srt_nil:Srt [] (fun _=>False):=⟨List.Pairwise.nil,fun _=>by simp⟩
theorem pX {n:Int} {q:Option (Int × Int)} {p:Int × Int} (h:p.1<0\/p.2<0\/n<=p.1\/n<=p.2):pairE n q p=3:=by unfold pairE;rw [bD h]
theorem sU {n:Int} {q:Option (Int × Int)} {p:Int × Int} (h:¬(p.1<0\/p.2<0\/n<=p.1\/n<=p.2)) (h2:p.1=p.2):pairE n q p=2:=by unfold pairE;rw [bB h,bD h2]
theorem sV {n:Int} {p:Int × Int} (h:¬(p.1<0\/p.2<0\/n<=p.1\/n<=p.2)) (h2:¬p.1=p.2):pairE n none p=0:=by unfold pairE;rw [bB h,bB h2]
theorem sS {n:Int} {q p:Int × Int} (h:¬(p.1<0\/p.2<0\/n<=p.1\/n<=p.2)) (h2:¬p.1=p.2):pairE n (some q) p=if 0<=cmp2 q p then 21 else 0:=by
 unfold pairE;rw [bB h,bB h2];simp only [xG]
theorem fO (w:World) (x y:Value) (t:TypeId):(w.alloc (.cells #[x,y] t)).cell? ⟨w.heap.size,0,none⟩=some x/\(w.alloc (.cells #[x,y] t)).cell? ⟨w.heap.size,1,none⟩=some y:=by
 constructor <;> (rw [World.cell?_alloc_at _ _ _ _ (by simp)];rfl)
theorem lH (n:Int) (q:Option (Int × Int)) (p:Int × Int) (r:List (Int × Int)):pairsE n q (p :: r)=if pairE n q p=0 then pairsE n (some p) r else pairE n q p:=rfl
def prevP (l:List (Int × Int)) (k:Nat):Option (Int × Int):=if k=0 then none else l[k - 1]?
theorem mL (l:List (Int × Int)) (n:Int) (A:Option Addr) (c:Nat) (w:World) (hs:Slc 2 RPr w A c l):
 Calls Tryz.prog 114 #[.slice A l.length c,.int .i64 n] w fun e' w'=>e' = .returned (.int .i64 (pairsC n l))/\Below w.heap.size w w':=by
 have hle:=hs.le;have hbig:=hs.big;unfold pairsC;by_cases h0:65535<l.length
 ·rw [bD h0];clear hs;go_enter Tryz.func114,Tryz.ntmps114
  go_wp2_with fail
  go_ret;exact ⟨rfl,aZ _ _⟩
 rw [bB h0];obtain ⟨R,hR⟩:∃R,pairsE n none l=R:=⟨_,rfl⟩;rw [hR];have HR:=aH hR;have HS:=aH hs;clear hR hs;go_enter Tryz.func114,Tryz.ntmps114
 go_wp2_with fail
 go_loopw [12] (fun v wr=>∃k:Nat,k<=l.length/\v = .int .i64 k/\Hid (Below w.heap.size w wr)/\Hid (R=pairsE n (prevP l k) (l.drop k))) (fun v _=>l.length - (intOf v).toNat)
 case atStart=>exact ⟨0,by omega,rfl,aH (aZ _ _),aH HR.out.symm⟩
 case round=>
  obtain ⟨k,hk,rfl,hB,hr⟩:=hrel;by_cases hlt:k<l.length
  ·have hd:=dA hlt;have hsl:=(HS.out.keep RPr.keeps hB.out).sl;obtain ⟨b,o,rfl,hb,hx⟩:=hsl.at_ hlt;have HP:Hid (prevP l (k+1)=some l[k]):=aH (by unfold prevP;rw [bB (by omega)];simp [hlt])
   have HQ:Hid (∀j,k=j+1->∃q,prevP l k=some q/\RPr wr wr.heap.size b (o+j * 2) q):=aH (fun j hj=>by
    obtain ⟨b',o',hbo,_,hz⟩:=hsl.at_ (show j<l.length by omega);obtain ⟨rfl,rfl⟩:b=b'/\o=o':=by simpa using hbo
    exact ⟨l[j],by unfold prevP;rw [bB (by omega),show k - 1=j by omega];exact bF (by omega),hz⟩)
   obtain ⟨p,hp⟩:∃p,l[k]=p:=⟨_,rfl⟩;rw [hp] at hd hx HP;obtain ⟨x0,x1⟩:=hx;have HN:Hid (R=if pairE n (prevP l k) p=0 then pairsE n (some p) (l.drop (k+1)) else pairE n (prevP l k) p):=aH (by rw [hr.out,hd,lH]);have hsz:=hB.out.size;obtain ⟨p1,p2⟩:=p;simp only at x0 x1;clear hd hr hsl hp;by_cases hrg:p1<0\/p2<0\/n<=p1\/n<=p2
   ·have HF:Hid (R=3):=aH (by rw [HN.out,pX hrg];rfl);clear HN;go_wp2_with fail
    all_goals first
     | (go_ret;exact ⟨by rw [HF.out];rfl,hB.out.alloc (by omega) _⟩)
     | (exfalso;omega)
   have e1:¬min p1 p2<0:=by omega
   have e2:¬n<=max p1 p2:=by omega
   by_cases hsm:p1=p2
   ·have HF:Hid (R=2):=aH (by rw [HN.out,sU hrg hsm];rfl);have e3:(p1 == p2)=true:=by simp [hsm]
    clear HN hrg;go_wp2_with fail
    all_goals first
     | (go_ret;exact ⟨by rw [HF.out];rfl,hB.out.alloc (by omega) _⟩)
     | (exfalso;omega)
   have e3:(p1 == p2)=false:=by simp [hsm]
   obtain ⟨W,hW⟩:∃W,W=wr.alloc (.cells #[.int .i64 p1,.int .i64 p2] 42):=⟨_,rfl⟩;have hBW:Below w.heap.size w W:=by rw [hW];exact hB.out.alloc (by omega) _
   have HBW:=aH hBW;rcases (show k=0\/∃j,k=j+1 from by cases k;exact .inl rfl;exact .inr ⟨_,rfl⟩) with rfl | ⟨j,rfl⟩
   ·have HF:Hid (R=pairsE n (prevP l 1) (l.drop 1)):=aH (by rw [HN.out,show prevP l 0=none from rfl,sV hrg hsm,bD rfl,HP.out]);clear HN hrg hsm hBW;simp only [Nat.zero_mul,Nat.add_zero] at x0 x1;go_wp2_with fail
    have hS:True:=trivial;refine eC (S:=fun _=>True) (by kernel_rfl) ?_;(iterate 3 (refine dG (v:=?_) (by kernel_rfl) (fun _ _ _ h=>h) (Or.inl ⟨by rfl,?_⟩) hS ?_;rotate_left;(next=>(rintro X _;(try simp only [aL]);go_simp;rfl));simp only [aL,Act.put,aM]));(iterate 8 (refine dG (v:=undef) (by kernel_rfl) (fun _ _ _ h=>h) (Or.inr ⟨by rfl,rfl⟩) hS ?_;simp only [aL,Act.put,aM]));(iterate 2 (refine dG (v:=?_) (by kernel_rfl) (fun _ _ _ h=>h) (Or.inl ⟨by rfl,?_⟩) hS ?_;rotate_left;(next=>(rintro X _;(try simp only [aL]);go_simp;rfl));simp only [aL,Act.put,aM]));refine eO rfl ?_;go_wp2_with fail
    go_roundw
    case rel=>exact ⟨1,by omega,by go_num,aH (by rw [<- hW];exact HBW.out.drew),HF⟩
    case measure=>simp [intOf];omega
   ·obtain ⟨q,hq,q0,q1⟩:=HQ.out j rfl
    have HF:Hid (R=if 0<=cmp2 q (p1,p2) then 21 else pairsE n (prevP l (j+1+1)) (l.drop (j+1+1))):=aH (by
     rw [HN.out,hq,sS hrg hsm,HP.out]
     split <;> simp)
    obtain ⟨n0,n1⟩:=fO wr (.int .i64 p1) (.int .i64 p2) 42;have hk0:Below wr.heap.size wr (wr.alloc (.cells #[.int .i64 p1,.int .i64 p2] 42)):=(aZ _ _).alloc (bA _) _;have HC:=aH (gB q (p1,p2) b (o+j * 2) wr.heap.size 0 (wr.alloc (.cells #[.int .i64 p1,.int .i64 p2] 42)).drew ((hk0.cell (p:=⟨b,o+j * 2,none⟩) hb).trans q0) ((hk0.cell (p:=⟨b,o+j * 2+1,none⟩) hb).trans q1) n0 n1);generalize cmp2 q (p1,p2)=cm at HF HC;clear HN hrg hsm hBW hq q0 q1 n0 n1 hk0;have hwk:IntKind.i64.wrap (j:Int)=(j:Int):=by rw [IntKind.wrap_i64];omega
    have hj1:(j:Int)<(l.length:Int):=(by omega);go_wp2_with fail
    have hS:True:=trivial;refine eC (S:=fun _=>True) (by kernel_rfl) ?_;(iterate 9 (refine dG (v:=?_) (by kernel_rfl) (fun _ _ _ h=>h) (Or.inl ⟨by rfl,?_⟩) hS ?_;rotate_left;(next=>(rintro X _;(try simp only [aL]);go_simp;rfl));simp only [aL,Act.put,aM]));(refine pL (by kernel_rfl) (fun K1 hK1=>?_);simp only [aL,Act.put,aM];rw [bD (by rfl)];go_simp);refine HC.out.mono ?_;rintro e' w3 ⟨rfl,hw⟩;obtain rfl:=hw.symm;refine hK1.out _ _ (fun _=>trivial) ?_;(iterate 3 (refine dG (v:=?_) (by kernel_rfl) (fun _ _ _ h=>h) (Or.inl ⟨by rfl,?_⟩) hS ?_;rotate_left;(next=>(rintro X _;(try simp only [aL]);go_simp;rfl));simp only [aL,Act.put,aM]));refine eO rfl ?_;by_cases hcm:0<=cm
    ·have HF':Hid (R=21):=aH (by rw [HF.out,bD hcm]);clear HF;go_wp2_with fail
     go_ret;exact ⟨by rw [HF'.out];rfl,by rw [<- hW];exact HBW.out.drew⟩
    ·have HF':Hid (R=pairsE n (prevP l (j+1+1)) (l.drop (j+1+1))):=aH (by rw [HF.out,bB hcm]);clear HF;go_wp2_with fail
     go_roundw
     case rel=>exact ⟨j+1+1,by omega,by go_num,aH (by rw [<- hW];exact HBW.out.drew),HF'⟩
     case measure=>simp [intOf];omega
  ·have HN:Hid (R=0):=aH (by rw [hr.out,bG (by omega)];rfl);clear hr;go_wp2_with fail
   go_ret;exact ⟨by rw [HN.out];rfl,hB.out⟩
end
section
open Go Go.RowKit Go.Maps
def OwnB (P:Program) (k e:TypeId) (w:World) (b n:Nat) (f:Lit->Bool):Prop:=
 ∃D:DataW Unit,w.ownsMap P k (plainElem P e) b n D/\∀kl,D.atKey kl (.lit (.bool false)) = .lit (.bool (f kl))
def strF (g:List UInt8->Bool):Lit->Bool
 | .string l=>g l
 | _=>false
section
variable {P:Program} {k e:TypeId} {w:World} {b n:Nat} {f:Lit->Bool}
theorem fS (he:P.underlying e=some .bool) (v:Bool):plainElem (H:=Unit) P e (.bool v)=some (.lit (.bool v),[]):=plainElem_bool he v
theorem iB (he:P.underlying e=some .bool) {v:Value} {z:DataW Unit × List MemPlace} (h:plainElem P e v=some z):∃x,v = .bool x/\z=(.lit (.bool x),[]):=by
 unfold plainElem at h;rw [he] at h;cases v <;> simp at h
 exact ⟨_,rfl,h.symm⟩
theorem OwnB.made (w:World) (P:Program) (k e:TypeId):OwnB P k e (w.alloc (.map #[] 0)) w.heap.size 0 (fun _=>false):=
 ⟨.map [],World.ownsMap_made w P k _,fun _=>rfl⟩
theorem OwnB.kept {w':World} {row:Option Nat} (h:OwnB P k e w b n f) (hg:w.grownBy w' row) (hne:some b≠row):OwnB P k e w' b n f:=by
 obtain ⟨D,h1,h2⟩:=h;exact ⟨D,h1.kept hg hne,h2⟩
theorem OwnB.alloc (h:OwnB P k e w b n f) (o:Obj):OwnB P k e (w.alloc o) b n f:=h.kept (World.grownBy_alloc w o none) (by simp)
theorem OwnB.lt (h:OwnB P k e w b n f):b<w.heap.size:=by
 obtain ⟨D,h1,_⟩:=h;exact h1.lt
theorem OwnB.block {w':World} (h:OwnB P k e w b n f) (hb:w'.heap[b]?=w.heap[b]?):OwnB P k e w' b n f:=by
 obtain ⟨D,⟨es,clock,h1,h3,h4,h5⟩,h2⟩:=h;exact ⟨D,⟨es,clock,hb.trans h1,h3,h4,h5⟩,h2⟩
theorem OwnB.below {w':World} (h:OwnB P k e w b n f) (hb:Below w.heap.size w w'):OwnB P k e w' b n f:=h.block (hb.block b h.lt)
theorem OwnB.look {t:TypeId} (h:OwnB P k e w b n f) (K:Keyed P k) (ht:P.underlying t=some (.map k e)) (he:P.underlying e=some .bool) (hz:(zeroValue e).run P w = .ok (.bool false) w)
 {key:Value} {kl:Lit} (hkey:keyOf P k key=some kl):(Instr.lookup t (.map (some b)) key false).run P w = .ok (.bool (f kl)) w:=by
 obtain ⟨D,h1,h2⟩:=h;obtain ⟨v,ps,hrun,hv⟩:=h1.lookup K ht hz (fS he false) hkey;obtain ⟨x,rfl,hx⟩:=iB he hv;rw [h2] at hx;injection hx with hx
 injection hx with hx
 injection hx with hx
 rw [hrun,hx]
theorem OwnB.store {t:TypeId} (h:OwnB P k e w b n f) (K:Keyed P k) (ht:P.underlying t=some (.map k e)) (he:P.underlying e=some .bool) (hn:n<maxLen)
 {key:Value} {kl:Lit} (hkey:keyOf P k key=some kl) (hk:WideAt.IsKeyLit kl) (v:Bool) {f':Lit->Bool} (f1:f' kl=v) (f2:∀x,x≠kl->f' x=f x):
 ∃w',(Instr.mapUpdate t (.map (some b)) key (.bool v)).run P w = .ok () w'/\OwnB P k e w' b (n+1) f'/\w.grownBy w' (some b):=by
 obtain ⟨D,h1,h2⟩:=h;obtain ⟨w',hrun,h3,h4⟩:=h1.update K ht hn hkey (fS he v);refine ⟨w',hrun,⟨_,h3,fun x=>?_⟩,h4⟩;by_cases hx:x=kl
 ·subst hx;rw [atKey_put_same h1.isMap hk,f1]
 ·rw [atKey_put_other hx,f2 x hx,h2]
end
theorem dB {P:Program} (w:World) {ops:Array Oper} {rest:List Oper} {o:Oper} {a:Act} {Q:Exit->Act->World->Prop}
 (hg:o.guard=none) (m x:Operand) (t:TypeId) (hop:o.op=Op.lookup t m x false)
 (k e:TypeId) (K:Keyed P k) (ht:P.underlying t=some (.map k e)) (he:P.underlying e=some .bool) (hz:(zeroValue e).run P w = .ok (.bool false) w) (b n:Nat) (f:Lit->Bool)
 (hm:a.eval m = .map (some b)) (hown:OwnB P k e w b n f) (key:Value) (kl:Lit) (hx:a.eval x=key) (hkey:keyOf P k key=some kl)
 (hK:wpList P ops Q rest (a.put o.dst (.bool (f kl))) w):
 wpList P ops Q (o :: rest) a w:=by
 refine wpList_plain hg fun K' hK'=>?_
 unfold Oper.wp;simp [execOp,hop,hm,hx,hown.look K ht he hz hkey,Result.andThen];exact hK' _ _ hK
theorem eE {P:Program} (w:World) {ops:Array Oper} {rest:List Oper} {o:Oper} {a:Act} {Q:Exit->Act->World->Prop}
 (hg:o.guard=none) (m x v:Operand) (t:TypeId) (hop:o.op=Op.mapUpdate t m x v)
 (k e:TypeId) (K:Keyed P k) (ht:P.underlying t=some (.map k e)) (he:P.underlying e=some .bool) (b n:Nat) (f:Lit->Bool)
 (hm:a.eval m = .map (some b)) (hown:OwnB P k e w b n f) (hn:n<maxLen) (key:Value) (kl:Lit) (val:Bool) (hx:a.eval x=key) (hv:a.eval v = .bool val) (hkey:keyOf P k key=some kl) (hk:WideAt.IsKeyLit kl)
 (f':Lit->Bool) (f1:f' kl=val) (f2:∀x,x≠kl->f' x=f x)
 (hK:∀w',OwnB P k e w' b (n+1) f'->w.grownBy w' (some b)->wpList P ops Q rest (a.put o.dst undef) w'):
 wpList P ops Q (o :: rest) a w:=by
 refine wpList_plain hg fun K' hK'=>?_
 obtain ⟨w',hrun,r1,r2⟩:=hown.store K ht he hn hkey hk val f1 f2;unfold Oper.wp;simp [execOp,hop,hm,hx,hv,hrun,Result.andThen];exact hK' _ _ (hK w' r1 r2)
def OwnV (P:Program) (k:TypeId) (w:World) (b n:Nat) (f:Lit->Value) (z:Value):Prop:=
 ∃D:DataW Value,w.ownsMap P k (fun v=>some (.held v,[])) b n D/\∀kl,D.atKey kl (.held z) = .held (f kl)
section
variable {P:Program} {k:TypeId} {w:World} {b n:Nat} {f:Lit->Value} {z:Value}
theorem OwnV.made (w:World) (P:Program) (k:TypeId) (z:Value):OwnV P k (w.alloc (.map #[] 0)) w.heap.size 0 (fun _=>z) z:=
 ⟨.map [],World.ownsMap_made w P k _,fun _=>rfl⟩
theorem OwnV.lt (h:OwnV P k w b n f z):b<w.heap.size:=by
 obtain ⟨D,h1,_⟩:=h;exact h1.lt
theorem OwnV.block {w':World} (h:OwnV P k w b n f z) (hb:w'.heap[b]?=w.heap[b]?):OwnV P k w' b n f z:=by
 obtain ⟨D,⟨es,clock,h1,h3,h4,h5⟩,h2⟩:=h;exact ⟨D,⟨es,clock,hb.trans h1,h3,h4,h5⟩,h2⟩
theorem OwnV.look {t e:TypeId} (h:OwnV P k w b n f z) (K:Keyed P k) (ht:P.underlying t=some (.map k e)) (hz:(zeroValue e).run P w = .ok z w)
 {key:Value} {kl:Lit} (hkey:keyOf P k key=some kl):(Instr.lookup t (.map (some b)) key false).run P w = .ok (f kl) w:=by
 obtain ⟨D,h1,h2⟩:=h;obtain ⟨v,ps,hrun,hv⟩:=h1.lookup K ht hz rfl hkey;rw [h2] at hv;injection hv with hv
 injection hv with hv
 injection hv with hv
 rw [hrun,hv]
theorem OwnV.store {t e:TypeId} (h:OwnV P k w b n f z) (K:Keyed P k) (ht:P.underlying t=some (.map k e)) (hn:n<maxLen)
 {key:Value} {kl:Lit} (hkey:keyOf P k key=some kl) (hk:WideAt.IsKeyLit kl) (v:Value) {f':Lit->Value} (f1:f' kl=v) (f2:∀x,x≠kl->f' x=f x):
 ∃w',(Instr.mapUpdate t (.map (some b)) key v).run P w = .ok () w'/\OwnV P k w' b (n+1) f' z/\w.grownBy w' (some b):=by
 obtain ⟨D,h1,h2⟩:=h;obtain ⟨w',hrun,h3,h4⟩:=h1.update K ht hn hkey (d:= .held v) rfl;refine ⟨w',hrun,⟨_,h3,fun x=>?_⟩,h4⟩;by_cases hx:x=kl
 ·subst hx;rw [atKey_put_same h1.isMap hk,f1]
 ·rw [atKey_put_other hx,f2 x hx,h2]
end
theorem dN {w w':World} {b n:Nat} (hg:w.grownBy w' (some b)) (hb:n<=b) (hs:n<=w.heap.size):Below n w w':=
 ⟨hg.os,hg.tape,hg.output,hg.size,fun k hk=>hg.block k (by omega) (by simp;omega)⟩
end
section
open Go Go.RowKit Go.Maps
def nilS:Value:= .slice none 0 0
def mapF (g:Int->Value):Lit->Value
 | .int .i64 n=>g n
 | _=>nilS
theorem rT {g g':Int->Value} {x:Int} (h:∀y,y≠x->g' y=g y):∀k,k≠Lit.int .i64 x->mapF g' k=mapF g k:=by
 intro k hk;cases k <;> try rfl
 rename_i q n;cases q <;> try rfl
 exact h n (fun e=>hk (by rw [e]))
theorem law3:Keyed Tryz.prog 3:=int_keyed Tryz.underlying3
theorem key3 {a:Int} (h0:0<=a) (h1:a<=9223372036854775807):keyOf Tryz.prog 3 (.int .i64 a)=some (.int .i64 a):=keyOf_int_mk Tryz.underlying3 (WalkArith.wf_i64 (by omega))
structure GI (w:World) (base rel:Nat) (M:Bool->Nat) (c:Nat) (n:Int) (L:Bool->Int->List Int) (F:Bool->Int->Value):Prop where
 head:w.heap[rel]?=some (.cells #[.int .i64 n,.map (some (M false)),.map (some (M true))] 195)
 maps:∀s,OwnV Tryz.prog 3 w (M s) c (mapF (F s)) nilS
 rows:∀s x,w.ownsRow base 3 1 (F s x) (L s x).length ((L s x).map (Value.int .i64))
 apart:∀s x s' x' g,(F s x).ownBlock=some g->(F s' x').ownBlock=some g->s=s'/\x=x'
 lrel:rel<base
 lmap:∀s,M s<base
 ne1:∀s,M s≠rel
 ne2:M false≠M true
 low:base<=w.heap.size
theorem OwnV.mono {P:Program} {k:TypeId} {w:World} {b n n':Nat} {f:Lit->Value} {z:Value} (h:OwnV P k w b n f z) (hn:n<=n'):OwnV P k w b n' f z:=by
 obtain ⟨D,h1,h2⟩:=h;exact ⟨D,h1.mono hn,h2⟩
theorem GI.keep {w w':World} {base rel c:Nat} {M:Bool->Nat} {n:Int} {L:Bool->Int->List Int} {F:Bool->Int->Value} (h:GI w base rel M c n L F) (hb:Below w.heap.size w w'):GI w' base rel M c n L F:=
 ⟨(hb.block _ (Array.getElem?_eq_some_iff.1 h.head).1).trans h.head,fun s=>(h.maps s).block (hb.block _ (h.maps s).lt),fun s x=>dE (h.rows s x) hb,h.apart,h.lrel,h.lmap,h.ne1,h.ne2,cA h.low hb.size⟩
def updL (L:Bool->Int->List Int) (s:Bool) (x:Int) (l:List Int):Bool->Int->List Int:=fun s' x'=>if s'=s/\x'=x then l else L s' x'
def updF (F:Bool->Int->Value) (s:Bool) (x:Int) (v:Value):Bool->Int->Value:=fun s' x'=>if s'=s/\x'=x then v else F s' x'
theorem xCM {w _w':World} {_base:Nat} {v v':Value} {g:Nat} (h:v'.ownBlock=v.ownBlock\/v'.ownBlock=some w.heap.size) (hg:v'.ownBlock=some g) (hlt:g<w.heap.size):v.ownBlock=some g:=by
 rcases h with h | h
 ·rw [<- h];exact hg
 ·rw [h] at hg;injection hg with hg
  omega
theorem GI.step {w w2 w3:World} {base rel c:Nat} {M:Bool->Nat} {n:Int} {L:Bool->Int->List Int} {F:Bool->Int->Value} (h:GI w base rel M c n L F) (s:Bool) (x:Int) (y:Int) (v':Value)
 (hown:w2.ownsRow base 3 1 v' ((L s x).length+1) ((L s x).map (Value.int .i64) ++ [.int .i64 y])) (hgrow:w.grownBy w2 (F s x).ownBlock) (hloc:v'.ownBlock=(F s x).ownBlock\/v'.ownBlock=some w.heap.size)
 (hmap:OwnV Tryz.prog 3 w3 (M s) (c+1) (mapF (updF F s x v' s)) nilS) (hgrow2:w2.grownBy w3 (some (M s))):
 GI w3 base rel M (c+1) n (updL L s x (L s x ++ [y])) (updF F s x v'):=by
 have hne:∀k,k<base->some k≠(F s x).ownBlock:=fun k hk e=>by
  have:=((h.rows s x).lt k e.symm).1;omega
 have hk3:∀k,k<w.heap.size->k<base->k≠M s->w3.heap[k]?=w.heap[k]?:=fun k hk hkb hkm=>
  (hgrow2.block k (bP hk hgrow.size) (by simpa using hkm)).trans (hgrow.block k hk (hne k hkb))
 have hlow:=h.low;refine ⟨?_,?_,?_,?_,h.lrel,h.lmap,h.ne1,h.ne2,cA hlow (cA hgrow.size hgrow2.size)⟩
 ·rw [hk3 rel (by have:=h.lrel;omega) h.lrel (fun e=>h.ne1 s e.symm)];exact h.head
 ·intro s';by_cases hs:s'=s
  ·subst hs;exact hmap
  ·have hms:M s'≠M s:=by
    have:=h.ne2;cases s <;> cases s' <;> simp_all [eq_comm]
   have:mapF (updF F s x v' s')=mapF (F s'):=by
    congr 1
    funext x'
    unfold updF;rw [bB (fun e=>hs e.1)]
   rw [this];exact ((h.maps s').mono (Nat.le_succ c)).block (hk3 _ (h.maps s').lt (h.lmap s') hms)
 ·intro s' x';unfold updL updF;by_cases he:s'=s/\x'=x
  ·rw [bD he,bD he,bE,cI,bV];refine dC hown (fun k hk hk2 _=>?_);exact hgrow2.block k hk2 (by have:=h.lmap s;simp;omega)
  ·rw [bB he,bB he];refine dC (h.rows s' x') (fun k hk hk2 hkr=>?_);refine (hgrow2.block k (bP hk2 hgrow.size) (by have:=h.lmap s;simp;omega)).trans (hgrow.block k hk2 (fun e=>?_));exact he (h.apart s' x' s x k hkr.symm e.symm)
 ·intro s1 x1 s2 x2 g h1 h2;unfold updF at h1 h2
  have key:∀s' x',¬(s'=s/\x'=x)->v'.ownBlock=some g->(F s' x').ownBlock=some g->False:=fun s' x' hn hv hf=>by
   have hlt:=((h.rows s' x').lt g hf).2;exact hn (h.apart s' x' s x g hf (xCM (_w':=w) (_base:=base) hloc hv hlt))
  by_cases e1:s1=s/\x1=x <;> by_cases e2:s2=s/\x2=x
  ·exact ⟨e1.1.trans e2.1.symm,e1.2.trans e2.2.symm⟩
  ·rw [bD e1] at h1;rw [bB e2] at h2;exact (key s2 x2 e2 h1 h2).elim
  ·rw [bB e1] at h1;rw [bD e2] at h2;exact (key s1 x1 e1 h2 h1).elim
  ·rw [bB e1] at h1;rw [bB e2] at h2;exact h.apart s1 x1 s2 x2 g h1 h2
def Rel3 (w:World) (r:Nat) (n:Int) (L:Bool->Int->List Int):Prop:=∃M:Bool->Nat,w.heap[r]?=some (.cells #[.int .i64 n,.map (some (M false)),.map (some (M true))] 195)/\
 (∀s x,0<=x->x<=9223372036854775807->∃A c,(∀W:World,Below w.heap.size w W->(Instr.lookup 88 (.map (some (M s))) (.int .i64 x) false).run Tryz.prog W = .ok (.slice A (L s x).length c) W)/\Slc 1 RInt w A c (L s x))
theorem Rel3.keep {w w':World} {r:Nat} {n:Int} {L:Bool->Int->List Int} (h:Rel3 w r n L) (hb:Below w.heap.size w w'):Rel3 w' r n L:=by
 obtain ⟨M,h1,h2⟩:=h;refine ⟨M,(hb.block _ (Array.getElem?_eq_some_iff.1 h1).1).trans h1,fun s x h0 h9=>?_⟩;obtain ⟨A,c,h3,h4⟩:=h2 s x h0 h9;exact ⟨A,c,fun W hW=>h3 W (hb.trans (hW.mono hb.size)),h4.keep RInt.keeps hb⟩
theorem tG:∀w,(zeroValue 48).run Tryz.prog w = .ok nilS w:=Tryz.zeroValue48
theorem GI.rel3 {w:World} {base rel c:Nat} {M:Bool->Nat} {n:Int} {L:Bool->Int->List Int} {F:Bool->Int->Value} (h:GI w base rel M c n L F):Rel3 w rel n L:=by
 refine ⟨M,h.head,fun s x h0 h9=>?_⟩;obtain ⟨A,c',hv,hs⟩:=dL (h.rows s x);refine ⟨A,c',fun W hW=>?_,hs⟩;have:=(((h.maps s).block (hW.block _ (h.maps s).lt)).look law3 Tryz.underlying88 (tG W) (key3 h0 h9));rw [this];show Result.ok (F s x) W=_;rw [hv]
end
section
open Go Go.RowKit
theorem fE (l:List Int) (A:Option Addr) (c:Nat) (w:World) (hs:Slc 1 RInt w A c l):
 Calls Tryz.prog 112 #[.slice A l.length c] w fun e' w'=>e' = .returned (.int .i64 (firstE l))/\w'=w:=by
 have hle:=hs.le;have hbig:=hs.big;obtain ⟨R,hR⟩:∃R,firstE l=R:=⟨_,rfl⟩;rw [hR];have HR:=aH hR;have HS:=aH hs;clear hR hs;go_enter Tryz.func112,Tryz.ntmps112
 go_wp2_with fail
 go_loop [7] (fun v=>∃k:Nat,k<=l.length/\v = .int .i64 k/\Hid (R=firstE (l.drop k))) (fun v=>l.length - (intOf v).toNat)
 case atStart=>exact ⟨0,by omega,rfl,aH HR.out.symm⟩
 case round=>
  obtain ⟨k,hk,rfl,hr⟩:=hrel;by_cases hlt:k<l.length
  ·have hd:=dA hlt;obtain ⟨b,o,rfl,hb,hx⟩:=HS.out.sl.at_ hlt;obtain ⟨y,hy⟩:∃y,l[k]=y:=⟨_,rfl⟩;rw [hy] at hd hx;have x0:w.cell? ⟨b,o+k,none⟩=some (.int .i64 y):=by simpa [RInt] using hx
   clear hx;by_cases h0:y=0
   ·have HN:Hid (R=firstE (l.drop (k+1))):=aH (by rw [hr.out,hd,firstE,bD h0]);clear hd hr hy;go_wp2_with fail
    go_round
    case rel=>exact ⟨k+1,by omega,by go_num,HN⟩
    case measure=>simp [intOf];omega
   ·have HN:Hid (R=y):=aH (by rw [hr.out,hd,firstE,bB h0]);have e1:(y == 0)=false:=by simp [h0]
    clear hd hr hy h0;go_wp2_with fail
    go_ret;exact ⟨by rw [HN.out];rfl,rfl⟩
  ·have HN:Hid (R=0):=aH (by rw [hr.out,bG (by omega)];rfl);clear hr;go_wp2_with fail
   go_ret;exact ⟨by rw [HN.out];rfl,rfl⟩
def depQ:Option Int->Int × Bool
 | none=>(0,false)
 | some k=>(k,true)
def depP (ds l:List Int):Int × Bool:=depQ (depF ds 0 l)
theorem eL (ds l:List Int) (g:Nat) (A B:Option Addr) (c d:Nat) (w:World) (hg:w.cell? ⟨g,1,none⟩=some (.slice B ds.length d)) (hd:Slc 1 RInt w B d ds) (hs:Slc 1 RInt w A c l):
 Calls Tryz.prog 176 #[.pointer (some ⟨g,0,none⟩),.slice A l.length c] w fun e' w'=>e' = .returned (.tuple #[.int .i64 (depP ds l).1,.bool (depP ds l).2])/\w'=w:=by
 have hle:=hs.le;have hbig:=hs.big;have dle:=hd.le;have dbig:=hd.big;obtain ⟨R,hR⟩:∃R,depF ds 0 l=R:=⟨_,rfl⟩;unfold depP;rw [hR];have HR:=aH hR;have HS:=aH hs;have HD:=aH hd;clear hR hs hd;obtain ⟨q,hq⟩:∃q:Int × Bool,depQ R=q:=⟨_,rfl⟩;rw [hq];have HQ:=aH hq;clear hq;go_enter Tryz.func176,Tryz.ntmps176
 go_wp2_with fail
 go_loop [6,11] (fun a v=>∃(k:Nat) (m:Int),k<=l.length/\a = .int .i64 m/\v = .int .i64 k/\Hid (R=depF ds m (l.drop k))) (fun _ v=>l.length - (intOf v).toNat)
 case atStart=>exact ⟨0,0,by omega,rfl,rfl,aH HR.out.symm⟩
 case round=>
  obtain ⟨k,m,hk,rfl,rfl,hr⟩:=hrel;by_cases hlt:k<l.length
  ·have hdr:=dA hlt;obtain ⟨b,o,rfl,hb,hx⟩:=HS.out.sl.at_ hlt;obtain ⟨y,hy⟩:∃y,l[k]=y:=⟨_,rfl⟩;rw [hy] at hdr hx;have x0:w.cell? ⟨b,o+k,none⟩=some (.int .i64 y):=by simpa [RInt] using hx
   clear hx hy;by_cases h1:y<0
   ·have HN:Hid (q=(0,false)):=aH (by rw [<- HQ.out,hr.out,hdr,depF,bD h1];rfl);clear hdr hr;go_wp2_with fail
    go_ret2
    exact ⟨by rw [HN.out];rfl,rfl⟩
   ·obtain ⟨n,rfl⟩:=bI (show 0<=y by omega);by_cases h2:n<ds.length
    ·obtain ⟨b2,o2,rfl,hb2,hz⟩:=HD.out.sl.at_ h2;have HN:Hid (R=depF ds (max m ds[n]) (l.drop (k+1))):=aH (by rw [hr.out,hdr,depF,bB h1,bX,bF h2]);obtain ⟨z,hzz⟩:∃z,ds[n]=z:=⟨_,rfl⟩;rw [hzz] at hz HN;have x1:w.cell? ⟨b2,o2+n,none⟩=some (.int .i64 z):=(by simpa [RInt] using hz);clear hdr hr hz hzz;go_wp2_with fail
     go_round
     case rel=>exact ⟨k+1,max m z,by omega,by go_num,by go_num,HN⟩
     case measure=>simp [intOf];omega
    ·have HN:Hid (q=(0,false)):=aH (by rw [<- HQ.out,hr.out,hdr,depF,bB h1,bX,cG (by omega)];rfl);clear hdr hr;go_wp2_with fail
     go_ret2
     exact ⟨by rw [HN.out];rfl,rfl⟩
  ·have HN:Hid (q=(m,true)):=aH (by rw [<- HQ.out,hr.out,bG (by omega)];rfl);clear hr;go_wp2_with fail
   go_ret2
   exact ⟨by rw [HN.out];rfl,rfl⟩
theorem ty_eq (s t:Ty):decide (s=t)=(decide (s.kind=t.kind) && decide (s.mu=t.mu) && decide (s.reg=t.reg) && decide (s.elem=t.elem) && decide (s.flds=t.flds)):=by
 cases s;cases t
 simp [Bool.and_assoc]
theorem xBZ (s t:Ty) (A B:Option Addr) (c d:Nat) (w:World) (hs:Slc 1 RInt w A c s.flds) (ht:Slc 1 RInt w B d t.flds):
 Calls Tryz.prog 179 #[tyAgg s A c,tyAgg t B d] w fun e' w'=>e' = .returned (.bool (decide (s=t)))/\Below w.heap.size w w':=by
 obtain ⟨r,hr⟩:∃r,decide (s.flds=t.flds)=r:=⟨_,rfl⟩;have HE:=aH (fun W hb=>wU A B c d s.flds t.flds W (hs.keep RInt.keeps hb) (ht.keep RInt.keeps hb));rw [ty_eq,hr];rw [hr] at HE;clear hs ht hr;unfold tyAgg;obtain ⟨q,hq⟩:∃q,(decide (s.kind=t.kind) && decide (s.mu=t.mu) && decide (s.reg=t.reg) && decide (s.elem=t.elem) && r)=q:=⟨_,rfl⟩;rw [hq];have HQ:=aH hq;clear hq;go_enter Tryz.func179,Tryz.ntmps179
 go_wp2_with (go_at_call 207;refine (HE.out _ (bel2 _ _ _)).mono ?_;rintro e' w1 ⟨rfl,n,rfl⟩)
 all_goals
  go_ret;refine ⟨?_,aJ⟩;rw [<- HQ.out];simp_all
end
section
open Go.RowKit
theorem sO (l:Int) (A:Option Addr) (c:Nat) (ps:List Pj) (w:World) (h:Slc 2 RPj w A c ps):
 Calls Tryz.prog 37 #[.agg #[.int .i64 l,.slice A ps.length c]] w fun e w'=>e = .returned (.int .i64 (chk l ps))/\Below w.heap.size w w':=by
 obtain ⟨hs,hle,hbig⟩:=h;by_cases hq:l<0\/32<ps.length
 ·go_enter Tryz.func37,Tryz.ntmps37
  go_wp2
  ·go_ret;exact ⟨ret_i (by simp [chk, *]),(aZ _ _).alloc (bA _) _⟩
  ·go_ret;exact ⟨ret_i (by rw [chk,bB (by omega),bD (by omega)]),(aZ _ _).alloc (bA _) _⟩
 have hz:Hid (chk l ps=chkP (ps.drop 0)):=aH (by rw [chk,bB (by omega),bB (by omega)];simp);go_enter Tryz.func37,Tryz.ntmps37
 go_wp2
 go_loopw [3] (fun v wr=>∃k:Nat,k<=ps.length/\v = .int .i64 k/\wr.cell? ⟨w.heap.size,1,none⟩=some (.slice A ps.length c)/\w.heap.size<wr.heap.size/\Below w.heap.size w wr/\Hid (chk l ps=chkP (ps.drop k))) (fun v _=>ps.length - (intOf v).toNat)
 case atStart=>exact ⟨0,by omega,rfl,by simp,by simp,(aZ _ _).alloc (bA _) _,hz⟩
 case round=>
  obtain ⟨k,hk,rfl,hcA,hlt0,hB,he⟩:=hrel;clear hz;by_cases hlt:k<ps.length
  ·obtain ⟨b,off,rfl,hb,hr⟩:=hs.at_ hlt;have hd:=aH (dA hlt);generalize ps[k]=x at hr hd;obtain ⟨g1,g2⟩:=RPj.keeps _ _ _ w.heap.size _ _ _ (bA _) hb hB hr;have hsz:=hB.size;clear hr hs;go_wp2
   all_goals
    first
    | (go_ret
       exact ⟨ret_i (by rw [he.out,hd.out,chkP];grind),hB.alloc hsz _⟩)
    | (go_roundw
       case rel=>exact ⟨k+1,by omega,by go_num,by go_simp,by simp;omega,hB.alloc hsz _,aH (by rw [he.out,hd.out,chkP];grind)⟩
       case measure=>simp [intOf];omega)
  ·have hd:ps.drop k=[]:=bG (by omega);have hfin:Hid (chk l ps=0):=aH (by rw [he.out,hd,chkP]);clear he hd hs;go_wp2
   go_ret;exact ⟨ret_i hfin.out.symm,hB⟩
end
section
open Go.RowKit Go.Shelf
theorem yZ {P:Program} (t e:TypeId) (A:Option Addr) (n c j k:Nat) (ht:P.underlying t=some (.slice e)) (hk:∀w,(sizeOf e).run P w = .ok k w) (hj:j<=n) (hn:n<=c) (w:World):
 (Instr.slice t (.slice A n c) none (some (.int .i64 (j:Int))) none).run P w = .ok (.slice (cutA A c 0 k) j c) w:=by
 have hb:=run_sliceBound (P:=P) (w:=w) .i64 (j:Int) c .sliceAcap (by omega) (by omega);simp only [bX] at hb;simp [Instr.slice,run_underlying ht,Instr.sliceBounds,hb,hk,cutA]
end
section
open Go Go.RowKit
def TyOk (ts:List Ty):Prop:=∀i (h:i<ts.length),(ts[i].kind=3->0<=ts[i].elem/\ts[i].elem<i/\ts[i].flds=[])/\∀f∈ts[i].flds,0<=f/\f<i
theorem fK {ts:List Ty} (hok:TyOk ts):∀(f g:Nat) (i:Int),i.toNat<f->i.toNat<g->copF ts f i=copF ts g i
 | 0,_,_,h,_=>absurd h (by omega)
 | _,0,_,_,h=>absurd h (by omega)
 | f+1,g+1,i,h,h2=>by
   rw [copF,copF];by_cases hi:i<0
   ·rw [bD hi,bD hi]
   rw [bB hi,bB hi];by_cases hlt:i.toNat<ts.length
   ·rw [bF hlt];simp only;split
    ·rfl
    ·rw [bS,List.all_eq_true,List.all_eq_true];have hf:=(hok i.toNat hlt).2;constructor <;> intro h0 x hx
     ·rw [<- fK hok f g x (by have:=hf x hx;omega) (by have:=hf x hx;omega)];exact h0 x hx
     ·rw [fK hok f g x (by have:=hf x hx;omega) (by have:=hf x hx;omega)];exact h0 x hx
   ·rw [cG (by omega)]
theorem xC {ts:List Ty} (hok:TyOk ts) {i:Nat} (h:i<ts.length):copB ts i=if ts[i].kind=3 then !ts[i].mu else ts[i].flds.all (copB ts):=by
 unfold copB;rw [bX,copF,bB (by omega),bX,bF h];simp only;split
 ·rfl
 ·rw [bS,List.all_eq_true,List.all_eq_true];have hf:=(hok i h).2;constructor <;> intro h0 x hx
  ·rw [fK hok _ i x (by omega) (by have:=hf x hx;omega)];exact h0 x hx
  ·rw [fK hok i _ x (by have:=hf x hx;omega) (by omega:x.toNat<x.toNat+1)];exact h0 x hx
theorem xAQ {ts:List Ty} {i:Int} (h:i<0\/(ts.length:Int)<=i):copB ts i=false:=by
 unfold copB;rw [copF];by_cases hi:i<0
 ·rw [bD hi]
 ·rw [bB hi,cG (by omega)]
end
end Go.Proofs.YtkaigkfbkpinlaaGreatDoor
