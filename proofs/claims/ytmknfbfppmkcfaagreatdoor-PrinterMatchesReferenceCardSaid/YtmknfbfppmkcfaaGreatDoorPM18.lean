/-
  Parts of the proof: V69 V72 Y24 Y16 Y53 Y51.
-/
import Derived.Test.YtmknfbfppmkcfaaGreatDoorPM0
import Derived.Test.YtmknfbfppmkcfaaGreatDoorPM17
import Derived.Test.YtmknfbfppmkcfaaGreatDoorPM14
import Derived.Test.YtmknfbfppmkcfaaGreatDoorPM9
import Derived.Test.YtmknfbfppmkcfaaGreatDoorPM12
import Derived.Test.YtmknfbfppmkcfaaGreatDoorPM6
import Derived.Test.YtmknfbfppmkcfaaGreatDoorPM1
import Derived.Test.YtmknfbfppmkcfaaGreatDoorPM4
namespace Go.Proofs.YtmknfbfppmkcfaaGreatDoor
set_option maxRecDepth 100000
set_option maxHeartbeats 16000000
section
open Go Go.RowKit
structure ShortB (b:Bdy):Prop where
 outl:b.outl.length<=65535
 regs:b.regions.length<=65535
 typs:b.types.length<=65535
 locs:b.locals.length<=65535
 blks:∀x∈b.blocks,x.stmts.length<=65535/\x.term.targets.length<=2/\x.term.place.proj.length<=32/\∀s∈x.stmts,s.place.proj.length<=32/\s.rv.place.proj.length<=32
theorem hH {n:Int} (h1 : -9223372036854775808<=n) (h2:n<=9223372036854775807):wrap64 n=n:=by unfold wrap64;omega
def tyZ (l:List Ty):Nat:=(l.map (fun t=>1+min t.flds.length 9000)).sum
theorem zK (l:List Ty) (t:Ty):tyZ (l ++ [t])=tyZ l+(1+min t.flds.length 9000):=by simp [tyZ]
def namesZ (b:Bdy):Nat:=szN b.name+b.outl.length+sumN b.regions+tyZ b.types+sumN (b.locals.map (·.name))+sumN (b.blocks.map (·.term.name))
def z1 (b:Bdy) (k:Nat):Nat:=szN b.name+b.outl.length+sumN (b.regions.take k)
def z2 (b:Bdy) (k:Nat):Nat:=z1 b b.regions.length+tyZ (b.types.take k)
def z3 (b:Bdy) (k:Nat):Nat:=z2 b b.types.length+sumN ((b.locals.take k).map (·.name))
def z4 (b:Bdy) (k:Nat):Nat:=z3 b b.locals.length+sumN ((b.blocks.take k).map (·.term.name))
theorem xFP (b:Bdy):z4 b b.blocks.length=namesZ b:=by
 unfold z4 z3 z2 z1 namesZ;simp only [cA]
theorem kG {α : Type} {l:List α} {k:Nat} (h:k<l.length):l.take (k+1)=l.take k ++ [l[k]]:=bF h
theorem xDA (b:Bdy) (k:Nat) (h:k<b.regions.length):z1 b (k+1)=z1 b k+(1+min b.regions[k].size 9000):=by
 unfold z1;rw [kG h,kQ];unfold szN;omega
theorem xCZ (b:Bdy) (k:Nat) (h:k<b.types.length):z2 b (k+1)=z2 b k+(1+min b.types[k].flds.length 9000):=by
 unfold z2;rw [kG h,zK];omega
theorem xCX (b:Bdy) (k:Nat) (h:k<b.locals.length):z3 b (k+1)=z3 b k+(1+min b.locals[k].name.size 9000):=by
 unfold z3;rw [kG h,bU,cK,List.map_nil,kQ];unfold szN;omega
theorem xCV (b:Bdy) (k:Nat) (h:k<b.blocks.length):z4 b (k+1)=z4 b k+(1+min b.blocks[k].term.name.size 9000):=by
 unfold z4;rw [kG h,bU,cK,List.map_nil,kQ];unfold szN;omega
theorem xFX {m a b c d:Int} (hm:0<=m/\m<=23000) (ha:0<=a/\a<=65535) (hb:0<=b/\b<=2) (hc:0<=c/\c<=32) (hd:0<=d/\d<=9000):wrap64 (m+wrap64 (wrap64 (wrap64 (wrap64 (1+a)+b)+c)+d))=m+(1+a+b+c+d):=by
 rw [hH (n:=1+a) (by omega) (by omega),hH (n:=1+a+b) (by omega) (by omega),hH (n:=1+a+b+c) (by omega) (by omega),hH (n:=1+a+b+c+d) (by omega) (by omega),hH (by omega) (by omega)]
theorem xFW {m a b q:Int} (hm:0<=m/\m<=3000) (ha:0<=a/\a<=32) (hb:0<=b/\b<=32) (hq:0<=q/\q<=20000):wrap64 (m+wrap64 (wrap64 (a+b)+q))=m+(a+b+q):=by
 rw [hH (n:=a+b) (by omega) (by omega),hH (n:=a+b+q) (by omega) (by omega),hH (by omega) (by omega)]
theorem xCY (b:Bdy):z2 b 0=z1 b b.regions.length:=by unfold z2;simp [tyZ]
theorem xCW (b:Bdy):z3 b 0=z2 b b.types.length:=by unfold z3;simp [sumN]
theorem xCU (b:Bdy):z4 b 0=z3 b b.locals.length:=by unfold z4;simp [sumN]
theorem pN (b:Bdy) (bh:BH) (w:World) (H:BdAt w b bh) (hz:NmOk b):
 Calls Tryz.prog 23 #[.agg (bdC b bh).toArray] w fun e' w'=>(∃q:Int,e' = .returned (.int .i64 q)/\(q<=0->ShortB b->namesZ b<=3000))/\Below w.heap.size w w':=by
 obtain ⟨A1,c1,A2,c2,A3,c3,A4,c4,A5,c5⟩:=bh;have HH:=aF H;have HZ:=aF hz;have r1:=H.reg.le;have r2:=H.reg.big;have o1:=H.out.le;have o2:=H.out.big;have l1:=H.loc.le;have l2:=H.loc.big;have t1:=H.typ.le;have t2:=H.typ.big;have b1:=H.blk.le;have b2:=H.blk.big;have n1:=hz.name;simp only at r1 r2 o1 o2 l1 l2 t1 t2 b1 b2;clear H hz;unfold bdC;simp only;have HCW:=aF (cX w [Value.string b.name,.slice A1 b.regions.length c1,.slice A2 b.outl.length c2,.slice A3 b.types.length c3,.slice A4 b.locals.length c4,.int .i64 b.args,.slice A5 b.blocks.length c5] 28);have HBW:=aF ((aX w.heap.size w).alloc (aY _) (.cells ([Value.string b.name,.slice A1 b.regions.length c1,.slice A2 b.outl.length c2,.slice A3 b.types.length c3,.slice A4 b.locals.length c4,.int .i64 b.args,.slice A5 b.blocks.length c5]).toArray 28));have HSZ:w.heap.size<(w.alloc (.cells ([Value.string b.name,.slice A1 b.regions.length c1,.slice A2 b.outl.length c2,.slice A3 b.types.length c3,.slice A4 b.locals.length c4,.int .i64 b.args,.slice A5 b.blocks.length c5]).toArray 28)).heap.size:=by simp
 go_enter Tryz.func23,Tryz.ntmps23
 go_wp2_with fail
 go_loopw [3,25] (fun v i wr=>∃(k:Nat) (m:Int),k<=b.regions.length/\i = .int .i64 k/\v = .int .i64 m/\Hid (aA (bdM b A1 c1 A2 c2 A3 c3 A4 c4 A5 c5 []) wr w.heap.size)/\Hid (Below w.heap.size w wr)/\w.heap.size<wr.heap.size/\Hid (ShortB b->((z1 b k:Nat):Int)<=m/\m<=80000+9001 * k)) (fun _ i _=>b.regions.length - (intOf i).toNat)
 case atStart=>
  refine ⟨0,_,by omega,rfl,rfl,HCW,HBW,HSZ,aF (fun hS=>?_)⟩;have h1:=hS.outl;have h2:z1 b 0=min b.name.size 9000+b.outl.length:=by unfold z1 szN;simp [sumN]
  rw [h2];try unfold wrap64
  omega
 case round=>
  obtain ⟨k,m,hk,rfl,rfl,HCC,HB,hlw,HR⟩:=hrel;clear HCW HBW HSZ;by_cases hlt:k<b.regions.length
  ·have HST:=aF (xDA b k hlt);obtain ⟨b5,o5,rfl,hb5,y⟩:=HH.out.reg.sl.at_ hlt;have hzs:=HZ.out.regs _ (bN hlt);generalize b.regions[k]=x at *;have p0:wr.cell? ⟨b5,o5+k,none⟩=some (.string x):=cN HB.out (by simpa [RN] using y);clear y;go_wp2_with fail
   go_roundw
   case rel=>
    refine ⟨k+1,_,by omega,by go_num,rfl,HCC,HB,hlw,aF (fun hS=>?_)⟩;have h1:=HR.out hS;have h2:=HST.out;have h3:=hS.regs;try unfold wrap64
    omega
   case measure=>simp [intOf];omega
  ·have HR2:Hid (ShortB b->((z2 b 0:Nat):Int)<=m/\m<=600000000):=aF (fun hS=>by
    have h1:=HR.out hS;have h3:=hS.regs;have h4:k=b.regions.length:=(by omega);rw [xCY,<- h4]
    omega)
   obtain ⟨y0,y1,y2,y3,y4,y5,y6⟩:=aS HCC.out;clear HR;go_wp2_with fail
   clear hlt hk;clear y0 y1 y2 y3 y4 y5 y6;go_loopw [3,39] (fun v i wr=>∃(k:Nat) (m:Int),k<=b.types.length/\i = .int .i64 k/\v = .int .i64 m/\Hid (aA (bdM b A1 c1 A2 c2 A3 c3 A4 c4 A5 c5 []) wr w.heap.size)/\Hid (Below w.heap.size w wr)/\w.heap.size<wr.heap.size/\Hid (ShortB b->((z2 b k:Nat):Int)<=m/\m<=600000000+9001 * k)) (fun _ i _=>b.types.length - (intOf i).toNat)
   case atStart=>exact ⟨0,m,by omega,rfl,rfl,HCC,HB,hlw,aF (fun hS=>by have:=HR2.out hS;omega)⟩
   case round=>
    clear HCC HB hlw HR2;obtain ⟨k,m,hk,rfl,rfl,HCC,HB,hlw,HR⟩:=hrel;by_cases hlt:k<b.types.length
    ·have HST:=aF (xCZ b k hlt);obtain ⟨b5,o5,rfl,hb5,y⟩:=HH.out.typ.sl.at_ hlt;obtain ⟨p0,p1,p2,p3,A6,c6,p4,p5,p6,_⟩:=RTy.keeps _ _ _ w.heap.size _ _ _ (aY _) hb5 HB.out y;generalize b.types[k]=x at *;have HCC2:=aF (fun o i v hi=>cN (alF wr o) (HCC.out i v hi));have HB2:=aF (fun o=>HB.out.alloc (Nat.le_of_lt hlw) o);clear y;go_wp2_with fail
     go_roundw
     case rel=>
      refine ⟨k+1,_,by omega,by go_num,rfl,aF (HCC2.out _),aF (HB2.out _),by simp;omega,aF (fun hS=>?_)⟩;have h1:=HR.out hS;have h2:=HST.out;have h3:=hS.typs;try unfold wrap64
      omega
     case measure=>simp [intOf];omega
    ·have HR2:Hid (ShortB b->((z3 b 0:Nat):Int)<=m/\m<=1200000000):=aF (fun hS=>by
      have h1:=HR.out hS;have h3:=hS.typs;have h4:k=b.types.length:=(by omega);rw [xCW,<- h4]
      omega)
     obtain ⟨y0,y1,y2,y3,y4,y5,y6⟩:=aS HCC.out;clear HR;go_wp2_with fail
     clear hlt hk;clear y0 y1 y2 y3 y4 y5 y6;go_loopw [3,54] (fun v i wr=>∃(k:Nat) (m:Int),k<=b.locals.length/\i = .int .i64 k/\v = .int .i64 m/\Hid (aA (bdM b A1 c1 A2 c2 A3 c3 A4 c4 A5 c5 []) wr w.heap.size)/\Hid (Below w.heap.size w wr)/\w.heap.size<wr.heap.size/\Hid (ShortB b->((z3 b k:Nat):Int)<=m/\m<=1200000000+9001 * k)) (fun _ i _=>b.locals.length - (intOf i).toNat)
     case atStart=>exact ⟨0,m,by omega,rfl,rfl,HCC,HB,hlw,aF (fun hS=>by have:=HR2.out hS;omega)⟩
     case round=>
      clear HCC HB hlw HR2;obtain ⟨k,m,hk,rfl,rfl,HCC,HB,hlw,HR⟩:=hrel;by_cases hlt:k<b.locals.length
      ·have HST:=aF (xCX b k hlt);have hzs:=HZ.out.locs _ (bN hlt);obtain ⟨b5,o5,rfl,hb5,y⟩:=HH.out.loc.sl.at_ hlt;obtain ⟨p0,p1⟩:=RLc.keeps _ _ _ w.heap.size _ _ _ (aY _) hb5 HB.out y;generalize b.locals[k]=x at *;have HCC2:=aF (fun o i v hi=>cN (alF wr o) (HCC.out i v hi));have HB2:=aF (fun o=>HB.out.alloc (Nat.le_of_lt hlw) o);clear y;go_wp2_with fail
       go_roundw
       case rel=>
        refine ⟨k+1,_,by omega,by go_num,rfl,aF (HCC2.out _),aF (HB2.out _),by simp;omega,aF (fun hS=>?_)⟩;have h1:=HR.out hS;have h2:=HST.out;have h3:=hS.locs;try unfold wrap64
        omega
       case measure=>simp [intOf];omega
      ·have HR2:Hid (ShortB b->((z4 b 0:Nat):Int)<=m):=aF (fun hS=>by
        have h1:=HR.out hS;have h4:k=b.locals.length:=(by omega);rw [xCU,<- h4]
        omega)
       obtain ⟨y0,y1,y2,y3,y4,y5,y6⟩:=aS HCC.out;clear HR;by_cases hm:3000<m
       ·go_wp2_with fail
        go_ret;exact ⟨⟨1,rfl,fun h=>absurd h (by omega)⟩,HB.out⟩
       go_wp2_with fail
       clear hlt hk;clear y0 y1 y2 y3 y4 y5 y6;go_loopw [3,71] (fun v i wr=>∃(k:Nat) (m:Int),k<=b.blocks.length/\i = .int .i64 k/\v = .int .i64 m/\Hid (aA (bdM b A1 c1 A2 c2 A3 c3 A4 c4 A5 c5 []) wr w.heap.size)/\Hid (Below w.heap.size w wr)/\w.heap.size<wr.heap.size/\Hid (ShortB b->((z4 b k:Nat):Int)<=m/\m<=23000)) (fun _ i _=>b.blocks.length - (intOf i).toNat)
       case atStart=>exact ⟨0,m,by omega,rfl,rfl,HCC,HB,hlw,aF (fun hS=>by have:=HR2.out hS;omega)⟩
       case round=>
        clear HCC HB hlw HR2 hm;obtain ⟨k,m,hk,rfl,rfl,HCC,HB,hlw,HR⟩:=hrel;by_cases hlt:k<b.blocks.length
        ·have HST:=aF (xCV b k hlt);have hzs:=HZ.out.blks _ (bN hlt);have HSB:=aF (fun (hS:ShortB b)=>hS.blks _ (bN hlt));obtain ⟨b5,o5,rfl,hb5,y⟩:=HH.out.blk.sl.at_ hlt;generalize b.blocks[k]=x at *;obtain ⟨B1,d1,B2,d2,B3,d3,B4,d4,p0,p1,p2,p3,p4,p5,p6,hs1,hs2,hs3,hs4⟩:=lX y;have HS1:=aF hs1;have HS3:=aF (fun W hb=>mU x.term.args B3 d3 W (hs3.keep ROp.keeps hb));have q1:=hs1.le;have q2:=hs1.big;have q3:=hs2.le;have q4:=hs2.big;have q5:=hs4.le;have q6:=hs4.big;replace p0:=cN HB.out p0;replace p1:=cN HB.out p1;replace p2:=cN HB.out p2;replace p3:=cN HB.out p3;replace p4:=cN HB.out p4;replace p5:=cN HB.out p5;replace p6:=cN HB.out p6;clear y hs1 hs2 hs3 hs4;have HBK:=aF (cX wr (bkL x B1 d1 B2 d2 B3 d3 B4 d4) 64);have HCC2:=aF (fun i v hi=>cN (alF wr (.cells (bkL x B1 d1 B2 d2 B3 d3 B4 d4).toArray 64)) (HCC.out i v hi));have HB2:=aF (HB.out.alloc (Nat.le_of_lt hlw) (.cells (bkL x B1 d1 B2 d2 B3 d3 B4 d4).toArray 64));obtain ⟨gx,hgx⟩:∃g,wr.heap.size=g:=⟨_,rfl⟩;have HGX:=aF hgx;have hgl:w.heap.size<gx:=(by omega);obtain ⟨m2,hm2⟩:∃m2,wrap64 (m+wrap64 (wrap64 (wrap64 (wrap64 (1+(x.stmts.length:Int))+(x.term.targets.length:Int))+(x.term.place.proj.length:Int))+min (x.term.name.size:Int) 9000))=m2:=⟨_,rfl⟩
         have HR2:Hid (ShortB b->((z4 b (k+1):Nat):Int)<=m2):=aF (fun hS=>by
          have h1:=HR.out hS;have h2:=HST.out;obtain ⟨g1,g2,g3,_⟩:=HSB.out hS;rw [<- hm2,xFX (by omega) (by omega) (by omega) (by omega) (by omega)]
          omega)
         by_cases h3:3000<m2
         ·go_wp2_with fail
          go_ret;exact ⟨⟨1,rfl,fun h=>absurd h (by omega)⟩,HB2.out⟩
         go_wp2_with fail
         clear p0 p1 p2 p3 p4 p5 p6 hm2;go_loopw [3,103] (fun v i wr2=>∃(j:Nat) (m:Int),j<=x.stmts.length/\i = .int .i64 j/\v = .int .i64 m/\m<=3000/\Hid (aA (bdM b A1 c1 A2 c2 A3 c3 A4 c4 (some ⟨b5,o5,none⟩) c5 []) wr2 w.heap.size)/\Hid (aA (bkL x B1 d1 B2 d2 B3 d3 B4 d4) wr2 gx)/\Hid (Below w.heap.size w wr2)/\gx<wr2.heap.size/\Hid (ShortB b->((z4 b (k+1):Nat):Int)<=m)) (fun _ i _=>x.stmts.length - (intOf i).toNat)
         case atStart=>exact ⟨0,m2,by omega,rfl,rfl,by omega,HCC2,aF (by rw [<- HGX.out];exact HBK.out),HB2,by rw [<- HGX.out];simp,HR2⟩
         case round=>
          clear HCC2 HBK HB2 HR2 h3 HCC HB HR;obtain ⟨j,m,hj,rfl,rfl,hm,HCC,HBK,HB,hgw,HR⟩:=hrel;have hlw:w.heap.size<wr.heap.size:=(by omega);by_cases hjl:j<x.stmts.length
          ·have HSM:=aF (fun (hS:ShortB b)=>(HSB.out hS).2.2.2 _ (bN hjl));obtain ⟨b3,o3,rfl,hb3,hy⟩:=HS1.out.sl.at_ hjl;generalize x.stmts[j]=s at *;obtain ⟨C0,e0,C1,e1,C2,e2,n0,n1,n2,n3,n4,n5,n6,n7,n8,n9,n10,hp0,hp,hl⟩:=kR hy;have f1:=hp0.le;have f2:=hp0.big;have f3:=hp.le;have f4:=hp.big;have HOP:=aF (fun W hb=>mU s.rv.args C2 e2 W (hl.keep ROp.keeps hb));replace n0:=cN HB.out n0;replace n1:=cN HB.out n1;replace n2:=cN HB.out n2;replace n3:=cN HB.out n3;replace n4:=cN HB.out n4;replace n5:=cN HB.out n5;replace n6:=cN HB.out n6;replace n7:=cN HB.out n7;replace n8:=cN HB.out n8;replace n9:=cN HB.out n9;replace n10:=cN HB.out n10;clear hy hp0 hp hl;obtain ⟨W1,hW1⟩:∃W1,wr.alloc (.cells #[Value.int .i64 s.kind,.int .i64 s.place.loc,.slice C0 s.place.proj.length e0,.int .i64 s.rv.kind,.int .i64 s.rv.op,.int .i64 s.rv.reg,.bool s.rv.mu,.int .i64 s.rv.place.loc,.slice C1 s.rv.place.proj.length e1,.slice C2 s.rv.args.length e2,.int .i64 s.loc] 87)=W1:=⟨_,rfl⟩;have hST:∀i v,(stC s C0 e0 C1 e1 C2 e2)[i]?=some v->W1.cell? ⟨wr.heap.size,i,none⟩=some v:=by rw [<- hW1];exact cX wr (stC s C0 e0 C1 e1 C2 e2) 87
           have hb1:Below wr.heap.size wr W1:=by rw [<- hW1];exact alF _ _
           have hb1d:Below wr.heap.size wr W1.drew:=hb1.drew;have HS0:Hid ((aA (stC s C0 e0 C1 e1 C2 e2) W1.drew wr.heap.size)/\(aA (bdM b A1 c1 A2 c2 A3 c3 A4 c4 (some ⟨b5,o5,none⟩) c5 []) W1.drew w.heap.size)/\(aA (bkL x (some ⟨b3,o3,none⟩) d1 B2 d2 B3 d3 B4 d4) W1.drew gx)/\Below w.heap.size w W1.drew):=aF ⟨hST,cO HCC.out hb1d,cO HBK.out hb1d,keep0 hb1d HB.out⟩;have hsz1:gx<W1.heap.size:=bO hgw hb1.size;clear hST hb1 hb1d;go_wp2_with fail
           clear n0 n1 n2 n3 n4 n5 n6 n7 n8 n9 n10;have hS:=HS0.out;refine cR (S:=fun X=>(aA (stC s C0 e0 C1 e1 C2 e2) X wr.heap.size)/\(aA (bdM b A1 c1 A2 c2 A3 c3 A4 c4 (some ⟨b5,o5,none⟩) c5 []) X w.heap.size)/\(aA (bkL x (some ⟨b3,o3,none⟩) d1 B2 d2 B3 d3 B4 d4) X gx)/\Below w.heap.size w X) [0,1,2,3,4,5,6,7,8,9,10,11,12,13,14,15,16,17] (by kernel_rfl) ?_;(iterate 14 (refine cS (v:=?_) ?_ hS ?_;rotate_left;(next=>(rintro X ⟨hX,_,_,_⟩;obtain ⟨-,-,s2,-,-,-,-,-,s8,s9⟩:=aV hX;(try simp only [aI]);go_simp;rfl));simp only [aM]));(refine cV (fun K1 hK1=>?_);simp only [aM];rw [bA (by rfl)];go_simp);refine (HOP.out _ hS.2.2.2).mono ?_;rintro e' w5 ⟨⟨q,rfl,hq0,hq1⟩,hb5⟩;replace hS:=bJ (cO hS.1 hb5) (bJ (cO hS.2.1 hb5) (bJ (cO hS.2.2.1 hb5) (hS.2.2.2.trans (hb5.mono hS.2.2.2.size))));have HS5:=aF hS;have hsz7:gx<w5.heap.size:=bO hsz1 hb5.size;clear hb5;refine hK1.out _ _ (fun _=>hS) ?_;clear hK1;(iterate 3 (refine cS (v:=?_) ?_ hS ?_;rotate_left;(next=>(rintro X -;(try simp only [aI]);go_simp;rfl));simp only [aM]));refine dA ?_;clear hS;obtain ⟨m3,hm3⟩:∃m3,IntKind.i64.wrap (m+IntKind.i64.wrap (IntKind.i64.wrap ((s.place.proj.length:Int)+(s.rv.place.proj.length:Int))+q))=m3:=⟨_,rfl⟩
           have hm4:wrap64 (m+wrap64 (wrap64 ((s.place.proj.length:Int)+(s.rv.place.proj.length:Int))+q))=m3:=by
            rw [<- IntWalk.i64_left,<- IntWalk.i64_left,<- IntWalk.i64_left];exact hm3
           have HR3:Hid (ShortB b->((z4 b (k+1):Nat):Int)<=m3):=aF (fun hS=>by
            have h1:=HR.out hS;obtain ⟨g1,g2⟩:=HSM.out hS;rw [<- hm4,xFW (by omega) (by omega) (by omega) (by omega)]
            omega)
           clear hm4;by_cases h3:3000<m3
           ·go_wp2_with fail
            go_ret;exact ⟨⟨1,rfl,fun h=>absurd h (by omega)⟩,HS5.out.2.2.2⟩
           go_wp2_with fail
           go_roundw
           case rel=>exact ⟨j+1,m3,by omega,by go_num,congrArg (Value.int .i64) hm3,by omega,aF HS5.out.2.1,aF HS5.out.2.2.1,aF HS5.out.2.2.2,hsz7,HR3⟩
           case measure=>simp [intOf];omega
          ·obtain ⟨y0,y1,y2,y3,y4,y5,y6⟩:=aS HCC.out;have k3:=HBK.out 3 _ rfl;go_wp2_with (go_at_call 64;refine (HS3.out _ HB.out).mono ?_;rintro e' w5 ⟨⟨q,rfl,hq0,hq1⟩,hb5⟩;have HB7:=aF (HB.out.trans (hb5.mono HB.out.size));have HC7:=aF (cO HCC.out hb5);have hsz7:=hb5.size;clear hb5)
           go_roundw
           case rel=>
            refine ⟨k+1,_,by omega,by go_num,rfl,HC7,HB7,by omega,aF (fun hS=>?_)⟩;have h1:=HR.out hS;try unfold wrap64
            omega
           case measure=>simp [intOf];omega
        ·have HZF:Hid (ShortB b->((namesZ b:Nat):Int)<=m):=aF (fun hS=>by
          have h1:=HR.out hS;have h4:k=b.blocks.length:=(by omega);rw [<- xFP,<- h4]
          omega)
         clear HR;by_cases h3:3000<m
         ·go_wp2_with fail
          go_ret;exact ⟨⟨1,rfl,fun h=>absurd h (by omega)⟩,HB.out⟩
         ·go_wp2_with fail
          go_ret;exact ⟨⟨0,rfl,fun _ hS=>by have:=HZF.out hS;omega⟩,HB.out⟩
theorem oA {b:Bdy} (h:chkB b=0):declC b=0:=by
 unfold chkB at h;by_cases h0:declC b=0
 ·exact h0
 ·rw [aZ h0] at h;exact absurd h h0
theorem rD {b:Bdy}:∀{l:List Blk},bksE b l=0->∀x∈l,bkE b x=0
 | [],_=>by simp
 | y :: r,h=>by
   rw [bksE] at h;by_cases he:bkE b y=0
   ·rw [bA he] at h;intro x hx;rcases List.mem_cons.1 hx with rfl | hx
    ·exact he
    ·exact rD h x hx
   ·rw [aZ he] at h;exact absurd h he
theorem qD {b:Bdy}:∀{l:List Stm},stsE b l=0->∀x∈l,stE b x=0
 | [],_=>by simp
 | y :: r,h=>by
   rw [stsE] at h;by_cases he:stE b y=0
   ·rw [bA he] at h;intro x hx;rcases List.mem_cons.1 hx with rfl | hx
    ·exact he
    ·exact qD h x hx
   ·rw [aZ he] at h;exact absurd h he
theorem tI {b:Bdy} {x:Blk} (h:bkE b x=0):x.stmts.length<=65535/\stsE b x.stmts=0/\tmE b x.term=0:=by
 unfold bkE at h;by_cases h1:65535<x.stmts.length
 ·rw [bA h1] at h;cases h
 rw [aZ h1] at h;by_cases h2:stsE b x.stmts=0
 ·rw [aZ (by simp [h2])] at h;exact ⟨by omega,h2,h⟩
 ·rw [bA h2] at h;exact absurd h h2
theorem nH {b:Bdy} {p:Plc} (h:(tyB b p).2=0):p.proj.length<=32:=by
 have hc:=(eL h).1;unfold chk at hc;by_cases h1:p.loc<0
 ·rw [bA h1] at hc;cases hc
 rw [aZ h1] at hc;by_cases h2:32<p.proj.length
 ·rw [bA h2] at hc;cases hc
 ·omega
theorem fA {p:Plc} (h:zeroP p=true):p.proj.length<=32:=by
 unfold zeroP at h;simp only [bQ,decide_eq_true_eq] at h;omega
theorem oE {b:Bdy} {p:Plc} (h:writE b p=0):p.proj.length<=32:=by
 unfold writE at h;by_cases h1:(tyB b p).2≠0
 ·rw [bA h1] at h;exact absurd h h1
 ·exact nH (by simpa using h1)
theorem xDP {b:Bdy} {r:Rvl} {t:Int} (h:rvE b r t=0):r.place.proj.length<=32:=by
 unfold rvE at h;by_cases h0:r.kind<0\/4<r.kind
 ·rw [bA h0] at h;cases h
 rw [aZ h0] at h;by_cases h1:unusedR r=false
 ·rw [bA h1] at h;cases h
 rw [aZ h1] at h;by_cases hk:r.kind=1
 ·rw [aZ (by omega),bA hk] at h;unfold borE at h;by_cases h2:(tyB b r.place).2≠0
  ·rw [bA h2] at h;exact absurd h h2
  ·exact nH (by simpa using h2)
 ·have h2:unusedR r=true:=by simpa using h1
  unfold unusedR at h2;refine fA ?_;by_cases k0:r.kind=0
  ·rw [bA k0] at h2;simp only [bQ] at h2;exact h2.1.1.2
  rw [aZ k0,aZ hk] at h2;by_cases k2:r.kind=2
  ·rw [bA k2] at h2;simp only [bQ] at h2;exact h2.1.2
  rw [aZ k2] at h2;by_cases k3:r.kind=3
  ·rw [bA k3] at h2;simp only [bQ] at h2;exact h2.1.2
  rw [aZ k3] at h2;simp only [bQ] at h2;exact h2.1.2
theorem nD {r:Rvl} (h:blankR r=true):r.place.proj.length<=32:=by
 unfold blankR at h;simp only [bQ] at h;exact fA h.2
theorem vY {b:Bdy} {s:Stm} (h:stE b s=0):s.place.proj.length<=32/\s.rv.place.proj.length<=32:=by
 unfold stE at h;by_cases k0:s.kind=0
 ·rw [bA k0] at h;by_cases h1:s.loc≠0
  ·rw [bA h1] at h;cases h
  rw [aZ h1] at h;by_cases h2:writE b s.place≠0
  ·rw [bA h2] at h;exact absurd h h2
  rw [aZ h2] at h;exact ⟨oE (by simpa using h2),xDP h⟩
 rw [aZ k0] at h;by_cases k1:s.kind=1
 ·rw [bA k1] at h;by_cases h1:zeroP s.place=false\/blankR s.rv=false
  ·rw [bA h1] at h;cases h
  ·exact ⟨fA (by cases e:zeroP s.place <;> simp_all),nD (by cases e:blankR s.rv <;> simp_all)⟩
 rw [aZ k1] at h;by_cases k2:s.kind=2
 ·rw [bA k2] at h;by_cases h1:zeroP s.place=false\/blankR s.rv=false\/s.loc≠0
  ·rw [bA h1] at h;cases h
  ·exact ⟨fA (by cases e:zeroP s.place <;> simp_all),nD (by cases e:blankR s.rv <;> simp_all)⟩
 rw [aZ k2] at h;cases h
theorem rM {b:Bdy} {t:Trm} (h:tmE b t=0):t.targets.length<=2/\t.place.proj.length<=32/\(t.kind=3->isIdent t.name=true):=by
 unfold tmE at h;by_cases h0:t.kind<0\/5<t.kind
 ·rw [bA h0] at h;cases h
 rw [aZ h0] at h;by_cases h1:fieldsT t=false
 ·rw [bA h1] at h;cases h
 rw [aZ h1] at h;have h2:fieldsT t=true:=by simpa using h1
 by_cases h3:t.targets.all (fun k=>decide (0<=k/\k<(b.blocks.length:Int)))=false
 ·rw [bA h3] at h;cases h
 rw [aZ h3] at h;unfold fieldsT at h2;by_cases k3:t.kind=3
 ·rw [aZ (by omega),aZ (by omega),bA k3] at h2;rw [aZ (by omega),bA k3] at h;simp only [decide_eq_true_eq] at h2;by_cases g1:isIdent t.name=false
  ·rw [bA g1] at h;cases h
  rw [aZ g1] at h;by_cases g2:65535<t.args.length
  ·rw [bA g2] at h;cases h
  rw [aZ g2] at h;by_cases g3:opsE b t.args []≠0
  ·rw [bA g3] at h;exact absurd h g3
  rw [aZ g3] at h;exact ⟨by omega,oE h,fun _=>by simpa using g1⟩
 by_cases k4:t.kind=4
 ·rw [aZ (by omega),aZ (by omega),aZ k3,bA k4] at h2;rw [aZ (by omega),aZ k3,bA k4] at h;simp only [bQ,decide_eq_true_eq] at h2;by_cases g1:(tyB b t.place).2≠0
  ·rw [bA g1] at h;exact absurd h g1
  ·exact ⟨by omega,nH (by simpa using g1),fun h=>absurd h k3⟩
 refine ⟨?_,?_,fun h=>absurd h k3⟩
 all_goals
  by_cases k0:t.kind=0
  ·rw [bA k0] at h2;simp only [bQ,decide_eq_true_eq] at h2;first | omega | exact fA h2.1.2
  ·rw [aZ k0] at h2;by_cases k1:t.kind=1
   ·rw [bA k1] at h2;simp only [bQ,decide_eq_true_eq] at h2;first | omega | exact fA h2.1.2
   ·rw [aZ k1,aZ k3,aZ k4] at h2;simp only [bQ,decide_eq_true_eq] at h2;first | omega | exact fA h2.1.2
theorem xFK {b:Bdy} (h:chkB b=0):bksE b b.blocks=0:=by
 have hd:=oA h;unfold chkB at h;rwa [bA hd] at h
theorem pV {b:Bdy} (h:chkB b=0):ShortB b:=by
 have D:=dS (oA h);refine ⟨D.nout,D.nreg,D.ntyp,D.nloc,fun x hx=>?_⟩;obtain ⟨h1,h2,h3⟩:=tI (rD (xFK h) x hx);obtain ⟨t1,t2,-⟩:=rM h3;exact ⟨h1,t1,t2,fun s hs=>vY (qD h2 s hs)⟩
theorem ybks {b:Bdy}:∀{l:List Blk},bksE b l=0->∀x∈l,bkE b x=0
 | [],_=>by simp
 | y :: r,h=>by
   rw [bksE] at h;by_cases he:bkE b y=0
   ·rw [bA he] at h;intro x hx;rcases List.mem_cons.1 hx with rfl | hx
    ·exact he
    ·exact ybks h x hx
   ·rw [aZ he] at h;exact absurd h he
theorem ysts {b:Bdy}:∀{l:List Stm},stsE b l=0->∀x∈l,stE b x=0
 | [],_=>by simp
 | y :: r,h=>by
   rw [stsE] at h;by_cases he:stE b y=0
   ·rw [bA he] at h;intro x hx;rcases List.mem_cons.1 hx with rfl | hx
    ·exact he
    ·exact ysts h x hx
   ·rw [aZ he] at h;exact absurd h he
theorem ybk {b:Bdy} {x:Blk} (h:bkE b x=0):stsE b x.stmts=0/\tmE b x.term=0:=by
 unfold bkE at h;split at h
 ·cases h
 split at h
 ·exact absurd h ‹_›
 ·exact ⟨Decidable.not_not.1 ‹_›,h⟩
theorem ychk {b:Bdy} (h:chkB b=0):declC b=0/\bksE b b.blocks=0:=by
 unfold chkB at h;split at h
 ·exact ⟨‹_›,h⟩
 ·exact absurd h ‹_›
theorem yops {b:Bdy}:∀{l:List Opd} {fs:List Int},opsE b l fs=0->∀o∈l,opE b o=0
 | [],_,_=>by simp
 | x :: r,[],h=>by
   rw [opsE] at h;split at h
   ·rename_i he;intro o ho;rcases List.mem_cons.1 ho with rfl | ho
    ·exact he
    ·exact yops h o ho
   ·exact absurd h ‹_›
 | x :: r,f :: fs,h=>by
   rw [opsE] at h;split at h
   ·rename_i he;split at h
    ·intro o ho;rcases List.mem_cons.1 ho with rfl | ho
     ·exact he
     ·exact yops h o ho
    ·cases h
   ·exact absurd h ‹_›
theorem tF:∀{ps:List Pj},chkP ps=0->∀x∈ps,okJ x
 | [],_=>by simp
 | y :: r,h=>by
   rw [chkP] at h;split at h
   ·cases h
   split at h
   ·cases h
   split at h
   ·cases h
   intro x hx;rcases List.mem_cons.1 hx with rfl | hx
   ·unfold okJ;omega
   ·exact tF h x hx
theorem xFJ {l:Int} {ps:List Pj} (h:chk l ps=0):∀x∈ps,okJ x:=by
 unfold chk at h;split at h
 ·cases h
 split at h
 ·cases h
 exact tF h
theorem lG {b:Bdy} {p:Plc} (h:(tyB b p).2=0):OkPl b.locals p:=by
 obtain ⟨h1,h2,h3⟩:=eL h;exact ⟨⟨h2,h3⟩,xFJ h1⟩
theorem eU {p:Plc} (h:zeroP p=true):p=⟨0,[]⟩:=by
 unfold zeroP at h;simp only [bQ,decide_eq_true_eq] at h;obtain ⟨l,ps⟩:=p;obtain ⟨rfl,h2⟩:=h;obtain rfl:=bV h2;rfl
theorem kA {b:Bdy} {o:Opd} (h:opE b o=0):OkOp b.locals o:=by
 unfold opE at h;split at h
 ·cases h
 rename_i h1;split at h
 ·cases h
 rename_i h2;split at h
 ·cases h
 rename_i h3
 have hz:1<o.kind->o.place=⟨0,[]⟩:=fun hk=>eU (by
  cases e:zeroP o.place
  ·exact absurd (.inr ⟨hk,e⟩) h2
  ·rfl)
 have hn:o.kind≠2->o.kind≠3->o.n=0:=fun a b=>by
  by_cases e:o.n=0
  ·exact e
  ·exact absurd (.inl ⟨a,b,e⟩) h2
 have hb:o.kind=3->o.n=0\/o.n=1:=fun a=>by
  by_cases e:o.n=0
  ·exact .inl e
  ·by_cases e':o.n=1
   ·exact .inr e'
   ·exact absurd ⟨a,e,e'⟩ h3
 refine ⟨by omega,hn,hz,hb,fun hk=>?_,?_⟩
 ·rw [aZ (by omega)] at h;split at h
  ·exact absurd h ‹_›
  ·exact lG (Decidable.not_not.1 ‹_›)
 ·by_cases hk:1<o.kind
  ·rw [hz hk];simp
  ·rw [aZ (by omega)] at h;split at h
   ·exact absurd h ‹_›
   ·exact nH (Decidable.not_not.1 ‹_›)
theorem xEN {b:Bdy} (hok:Okay b.types b.locals) {r:Rvl} {p:Plc} (hp:(tyB b p).2=0) (h:rvE b r (tyB b p).1=0):OkRv b.locals b.regions r:=by
 obtain ⟨t0,t1⟩:=fM hok hp;obtain ⟨ty,ht⟩:∃ty,b.types[(tyB b p).1.toNat]?=some ty:=⟨_,bD (show (tyOf b.types b.locals p.loc p.proj).1.toNat<b.types.length by omega)⟩;generalize (tyB b p).1=t at h ht;unfold rvE at h;split at h
 ·cases h
 rename_i h1;split at h
 ·cases h
 rename_i h2;rw [Bool.not_eq_false] at h2;unfold unusedR at h2;simp only at h2;have hk:r.kind=0\/r.kind=1\/r.kind=2\/r.kind=3\/r.kind=4:=by omega
 rcases hk with hk | hk | hk | hk | hk
 ·rw [bA hk] at h;simp only [hk,if_true,if_false,reduceIte,bQ,decide_eq_true_eq,Bool.not_eq_true',Int.reduceEq] at h2;obtain ⟨⟨⟨⟨a1,a2⟩,a3⟩,a4⟩,a5⟩:=h2;exact ⟨by omega,fun _=>⟨a1,a2,eU a3⟩,fun e=>by omega,fun _=>a4,fun _=>a5,fun e=>by omega,fun e=>by omega,fun o ho=>kA (yops h o ho)⟩
 ·rw [aZ (by omega),bA hk] at h;simp only [hk,if_true,if_false,reduceIte,bQ,decide_eq_true_eq,Bool.not_eq_true',Int.reduceEq] at h2;obtain ⟨a1,a2⟩:=h2;have a3:=bV a2;unfold borE at h;split at h
  ·exact absurd h ‹_›
  rename_i h3;split at h
  ·cases h
  rename_i h4;exact ⟨by omega,fun e=>by omega,fun _=>⟨a1,a3,⟨by omega,by omega⟩,lG (Decidable.not_not.1 h3)⟩,fun _=>a1,fun e=>by omega,fun e=>by omega,fun e=>by omega,fun o ho=>by rw [a3] at ho;cases ho⟩
 ·rw [aZ (by omega),aZ (by omega),bA hk] at h;simp only [hk,if_true,if_false,reduceIte,bQ,decide_eq_true_eq,Bool.not_eq_true',Int.reduceEq] at h2;obtain ⟨⟨⟨a1,a2⟩,a3⟩,a5⟩:=h2;unfold operE at h;split at h
  ·cases h
  rename_i h3;split at h
  ·exact absurd h ‹_›
  rename_i h4;have h5:¬(r.op<0\/(2:Int)<=r.op):=h3;exact ⟨by omega,fun _=>⟨a1,a2,eU a3⟩,fun e=>by omega,fun e=>by omega,fun e=>by omega,fun _=>by omega,fun e=>by omega,fun o ho=>kA (yops (Decidable.not_not.1 h4) o ho)⟩
 ·rw [aZ (by omega),aZ (by omega),aZ (by omega),bA hk] at h;simp only [hk,if_true,if_false,reduceIte,bQ,decide_eq_true_eq,Bool.not_eq_true',Int.reduceEq] at h2;obtain ⟨⟨⟨a1,a2⟩,a3⟩,a5⟩:=h2;unfold operE at h;split at h
  ·cases h
  rename_i h3;split at h
  ·exact absurd h ‹_›
  rename_i h4;have h5:¬(r.op<0\/(6:Int)<=r.op):=h3;exact ⟨by omega,fun _=>⟨a1,a2,eU a3⟩,fun e=>by omega,fun e=>by omega,fun e=>by omega,fun e=>by omega,fun _=>by omega,fun o ho=>kA (yops (Decidable.not_not.1 h4) o ho)⟩
 ·rw [aZ (by omega),aZ (by omega),aZ (by omega),aZ (by omega),ht] at h;simp only [hk,if_true,if_false,reduceIte,bQ,decide_eq_true_eq,Bool.not_eq_true',Int.reduceEq] at h2;obtain ⟨⟨⟨a1,a2⟩,a3⟩,a4⟩:=h2;simp only at h;split at h
  ·cases h
  exact ⟨by omega,fun _=>⟨a1,a2,eU a3⟩,fun e=>by omega,fun _=>a4,fun e=>by omega,fun e=>by omega,fun e=>by omega,fun o ho=>kA (yops h o ho)⟩
theorem tH {r:Rvl} (h:blankR r=true):r=⟨0,0,0,false,⟨0,[]⟩,[]⟩:=by
 unfold blankR at h;simp only [bQ,decide_eq_true_eq,Bool.not_eq_true'] at h;obtain ⟨⟨⟨⟨⟨a1,a2⟩,a3⟩,a4⟩,a5⟩,a6⟩:=h;obtain ⟨k,op,reg,mu,place,args⟩:=r;simp only at a1 a2 a3 a4 a5 a6;subst a1 a2 a4 a5;rw [eU a6,bV a3]
theorem nF {b:Bdy} {p:Plc} (h:writE b p=0):(tyB b p).2=0:=by
 unfold writE at h;split at h
 ·exact absurd h ‹_›
 ·exact Decidable.not_not.1 ‹_›
theorem lF {b:Bdy} (hok:Okay b.types b.locals) {s:Stm} (h:stE b s=0):OkSt b.locals b.regions s:=by
 unfold stE at h;split at h
 ·rename_i hk;split at h
  ·cases h
  rename_i hl;split at h
  ·exact absurd h ‹_›
  rename_i hw;have ht:=nF (Decidable.not_not.1 hw);exact ⟨by omega,fun _=>⟨Decidable.not_not.1 hl,lG ht,xEN hok ht h⟩,fun e=>absurd hk e,fun e=>by omega,fun e=>by omega⟩
 rename_i hk;split at h
 ·rename_i hk1;split at h
  ·cases h
  rename_i hz;split at h
  ·cases h
  rename_i hl;simp only [not_or,Bool.not_eq_false] at hz;exact ⟨by omega,fun e=>absurd e hk,fun _=>⟨eU hz.1,tH hz.2⟩,fun _=>⟨by omega,by omega⟩,fun e=>by omega⟩
 rename_i hk1;split at h
 ·rename_i hk2;split at h
  ·cases h
  rename_i hz;simp only [not_or,Bool.not_eq_false] at hz;exact ⟨by omega,fun e=>absurd e hk,fun _=>⟨eU hz.1,tH hz.2.1⟩,fun e=>absurd e hk1,fun _=>Decidable.not_not.1 hz.2.2⟩
 ·cases h
theorem lJ {n:ByteArray} (h:n.size=0):n=⟨#[]⟩:=by
 obtain ⟨d⟩:=n;rw [show d = #[] from Array.eq_empty_of_size_eq_zero h]
theorem lE {b:Bdy} {t:Trm} (h:tmE b t=0):OkTm b.locals t:=by
 unfold tmE at h;split at h
 ·cases h
 rename_i h1;split at h
 ·cases h
 rename_i h2;rw [Bool.not_eq_false] at h2;unfold fieldsT at h2;split at h
 ·cases h
 have hk:t.kind=0\/t.kind=1\/t.kind=2\/t.kind=3\/t.kind=4\/t.kind=5:=by omega
 rcases hk with hk | hk | hk | hk | hk | hk
 ·simp only [hk,if_true,if_false,reduceIte,bQ,decide_eq_true_eq,Int.reduceEq] at h2;obtain ⟨⟨⟨a1,a2⟩,a3⟩,a4⟩:=h2;have a5:=bV a2;exact ⟨by omega,fun _=>a1,fun e=>by omega,fun e=>by omega,fun _ _=>a5,fun _ _=>eU a3,fun _=>lJ a4,fun e=>by omega,fun e=>by omega,fun o ho=>by rw [a5] at ho;cases ho⟩
 ·simp only [hk,if_true,if_false,reduceIte,bQ,decide_eq_true_eq,Int.reduceEq] at h2;obtain ⟨⟨⟨a1,a2⟩,a3⟩,a4⟩:=h2;rw [bA hk] at h
  have hargs:∀o∈t.args,OkOp b.locals o:=by
   match e:t.args,a2 with
   | [o],_=>
     rw [e] at h;simp only at h;split at h
     ·exact absurd h ‹_›
     ·intro x hx;rw [List.mem_singleton.1 hx];exact kA (Decidable.not_not.1 ‹_›)
  exact ⟨by omega,fun e=>by omega,fun _=>⟨a1,a2⟩,fun e=>by omega,fun e=>absurd hk e,fun _ _=>eU a3,fun _=>lJ a4,fun e=>by omega,fun e=>by omega,hargs⟩
 ·simp only [hk,if_true,if_false,reduceIte,bQ,decide_eq_true_eq,Int.reduceEq] at h2;obtain ⟨⟨⟨a1,a2⟩,a3⟩,a4⟩:=h2;have a5:=bV a2;exact ⟨by omega,fun e=>by omega,fun e=>by omega,fun _=>bV a1,fun _ _=>a5,fun _ _=>eU a3,fun _=>lJ a4,fun e=>by omega,fun e=>by omega,fun o ho=>by rw [a5] at ho;cases ho⟩
 ·simp only [hk,if_true,if_false,reduceIte,bQ,decide_eq_true_eq,Int.reduceEq] at h2;rw [aZ (by omega),bA hk] at h;split at h
  ·cases h
  rename_i h3;split at h
  ·cases h
  split at h
  ·exact absurd h ‹_›
  rename_i h4;exact ⟨by omega,fun _=>h2,fun e=>by omega,fun e=>by omega,fun _ e=>absurd hk e,fun e=>absurd hk e,fun e=>absurd hk e,fun _=>by simpa using h3,fun _=>lG (nF h),fun o ho=>kA (yops (Decidable.not_not.1 h4) o ho)⟩
 ·simp only [hk,if_true,if_false,reduceIte,bQ,decide_eq_true_eq,Int.reduceEq] at h2;obtain ⟨⟨a1,a2⟩,a4⟩:=h2;have a5:=bV a2;rw [aZ (by omega),aZ (by omega),bA hk] at h;split at h
  ·exact absurd h ‹_›
  rename_i h4;exact ⟨by omega,fun _=>a1,fun e=>by omega,fun e=>by omega,fun _ _=>a5,fun _ e=>absurd hk e,fun _=>lJ a4,fun e=>by omega,fun _=>lG (Decidable.not_not.1 h4),fun o ho=>by rw [a5] at ho;cases ho⟩
 ·simp only [hk,if_true,if_false,reduceIte,bQ,decide_eq_true_eq,Int.reduceEq] at h2;obtain ⟨⟨⟨a1,a2⟩,a3⟩,a4⟩:=h2;have a5:=bV a2;exact ⟨by omega,fun e=>by omega,fun e=>by omega,fun _=>bV a1,fun _ _=>a5,fun _ _=>eU a3,fun _=>lJ a4,fun e=>by omega,fun e=>by omega,fun o ho=>by rw [a5] at ho;cases ho⟩
theorem xCC:∀{l seen:List ByteArray},namesE seen l=0->(∀s∈l,isIdent s=true)/\l.Nodup/\∀s∈l,s∉seen
 | [],_,_=>by simp
 | x :: r,seen,h=>by
   rw [namesE] at h;split at h
   ·cases h
   rename_i h1;split at h
   ·cases h
   rename_i h2;obtain ⟨a1,a2,a3⟩:=xCC h;have h3:x∉seen:=fun e=>h2 (sM.2 e)
   refine ⟨fun s hs=>?_,List.nodup_cons.2 ⟨fun e=>a3 x e (by simp),a2⟩,fun s hs=>?_⟩
   ·rcases List.mem_cons.1 hs with rfl | hs
    ·simpa using h1
    ·exact a1 s hs
   ·rcases List.mem_cons.1 hs with rfl | hs
    ·exact h3
    ·exact fun e=>a3 s hs (by simp [e])
theorem vH {nt:Nat}:∀{l:List Lc} {seen:List ByteArray},localsE nt seen l=0->(∀s∈l,isIdent s.name=true)/\(l.map (·.name)).Nodup/\∀s∈l,s.name∉seen
 | [],_,_=>by simp
 | x :: r,seen,h=>by
   rw [localsE] at h;split at h
   ·cases h
   rename_i h1;split at h
   ·cases h
   rename_i h2;split at h
   ·cases h
   obtain ⟨a1,a2,a3⟩:=vH h;have h3:x.name∉seen:=fun e=>h2 (sM.2 e)
   refine ⟨fun s hs=>?_,?_,fun s hs=>?_⟩
   ·rcases List.mem_cons.1 hs with rfl | hs
    ·simpa using h1
    ·exact a1 s hs
   ·rw [cK,List.nodup_cons];refine ⟨fun e=>?_,a2⟩;obtain ⟨y,hy,e⟩:=List.mem_map.1 e;exact a3 y hy (by simp [e])
   ·rcases List.mem_cons.1 hs with rfl | hs
    ·exact h3
    ·exact fun e=>a3 s hs (by simp [e])
theorem sK {α : Type} {l:List α} (h:l.Nodup) {i j:Nat} {a : α} (hi:l[i]?=some a) (hj:l[j]?=some a):i=j:=by
 obtain ⟨h1,_⟩:=List.getElem?_eq_some_iff.1 hi;exact (List.getElem?_inj h1 h).1 (by rw [hi,hj])
theorem xEO {l:List ByteArray} (h:namesC l=0):NmRs l:=by
 unfold namesC at h;split at h
 ·cases h
 obtain ⟨a1,a2,_⟩:=xCC h;exact ⟨fun i x hi=>a1 x (List.mem_of_getElem? hi),fun i j a b hi hj e=>sK a2 hi (by rw [hj,e])⟩
theorem xEP {nt:Nat} {l:List Lc} (h:localsE nt [] l=0):NmLs l:=by
 obtain ⟨a1,a2,_⟩:=vH h;refine ⟨fun i x hi=>a1 x (List.mem_of_getElem? hi),fun i j a b hi hj e=>sK (a:=a.name) a2 ?_ ?_⟩
 ·rw [cM,hi];rfl
 ·rw [cM,hj,e];rfl
theorem xEM {prev:List Ty} {d:List Int} {rs:List ByteArray} {t:Ty} (h:(tyE prev d rs.length t).1=0):OkTy rs t:=by
 unfold tyE at h;split at h
 ·cases h
 rename_i h1;split at h
 ·cases h
 rename_i h2;split at h
 ·cases h
 rename_i h3;clear h
 have hf:t.kind≠4->t.flds=[]:=fun e=>bV (by
  by_cases e':t.flds.length=0
  ·exact e'
  ·exact absurd (.inr ⟨e,by omega⟩) h2)
 have hm:t.kind≠3->t.mu=false/\t.reg=0/\t.elem=0:=fun e=>by
  have h4:¬(t.mu=true\/t.reg≠0\/t.elem≠0):=fun e'=>h2 (.inl ⟨e,e'⟩)
  simp only [not_or,Bool.not_eq_true,Decidable.not_not] at h4;exact h4
 exact ⟨by omega,hm,hf,fun e=>⟨by omega,by omega⟩⟩
theorem xCB {rs:List ByteArray}:∀{l prev:List Ty} {d:List Int},typesE rs.length prev d l=0->∀t∈l,OkTy rs t
 | [],_,_,_=>by simp
 | x :: r,prev,d,h=>by
   rw [typesE] at h;split at h
   ·rename_i h0;intro t ht;rcases List.mem_cons.1 ht with rfl | ht
    ·exact xEM h0
    ·exact xCB h t ht
   ·exact absurd h ‹_›
theorem sJ {b:Bdy} (h:chkB b=0):OkB b:=by
 obtain ⟨hd,hb⟩:=ychk h;have D:=dS hd;refine ⟨D.name,xEO D.regs,fun x hx=>?_,?_,xEP D.locE,D.args,fun x hx=>?_⟩
 ·obtain ⟨a,b,c,d⟩:=D.pairs x hx;exact ⟨⟨a,b⟩,⟨c,d⟩⟩
 ·have:=D.typC;unfold typesC at this;split at this
  ·cases this
  exact xCB this
 ·obtain ⟨h1,h2⟩:=ybk (ybks hb x hx);exact ⟨fun s hs=>lF D.okay (ysts h1 s hs),lE h2⟩
def rR6:List UInt8:=[125,10]
def rR5 (b:Bdy) (i:Nat):List UInt8:=numP (kE b.locals b.regions) i (b.blocks.drop i) ++ rR6
def rR4 (b:Bdy) (i:Nat):List UInt8:=numP (lN b.args) i (b.locals.drop i) ++ rR5 b 0
def rR3 (b:Bdy) (i:Nat):List UInt8:=numP (kO b.regions) i (b.types.drop i) ++ rR4 b 0
def rR2 (b:Bdy):List UInt8:=outsP b.regions b.outl ++ rR3 b 0
def rR1 (b:Bdy):List UInt8:=regsP b.regions ++ rR2 b
theorem mM (b:Bdy):printP b=headP [98,111,100,121] b ++ rR1 b:=by
 simp [printP,rR1,rR2,rR3,rR4,rR5,rR6]
theorem sA {b:Bdy} {i:Nat} (h:i<b.types.length):rR3 b i=kO b.regions i b.types[i] ++ rR3 b (i+1):=by
 unfold rR3;rw [cY h,jL,bM]
theorem wO {b:Bdy} {i:Nat} (h:b.types.length<=i):rR3 b i=rR4 b 0:=by unfold rR3;rw [bE h];rfl
theorem rZ {b:Bdy} {i:Nat} (h:i<b.locals.length):rR4 b i=lN b.args i b.locals[i] ++ rR4 b (i+1):=by
 unfold rR4;rw [cY h,jL,bM]
theorem wN {b:Bdy} {i:Nat} (h:b.locals.length<=i):rR4 b i=rR5 b 0:=by unfold rR4;rw [bE h];rfl
theorem rY {b:Bdy} {i:Nat} (h:i<b.blocks.length):rR5 b i=kE b.locals b.regions i b.blocks[i] ++ rR5 b (i+1):=by
 unfold rR5;rw [cY h,jL,bM]
theorem wM {b:Bdy} {i:Nat} (h:b.blocks.length<=i):rR5 b i=rR6:=by unfold rR5;rw [bE h];rfl
structure FitB (b:Bdy):Prop where
 ty:∀t∈b.types,FitT t
 lc:∀l∈b.locals,fitN l.type
 st:∀x∈b.blocks,∀s∈x.stmts,FitS s
 tm:∀x∈b.blocks,FitTm x.term
structure PW (w0:World) (n g:Nat) (b:Bdy) (bh:BH) (bs:List UInt8) (d:Nat) (W:World):Prop where
 L:Lives w0 (g+2) g b bh bs d W
 bd:W.heap[n]?=some (.cells (bdC b bh).toArray 28 (0,0))
 pc:W.heap[g+1]?=some (.cells [Value.pointer (some ⟨g,0,none⟩)].toArray 66 (0,0))
 ng:n<g
theorem PW.keep {w0:World} {n g:Nat} {b:Bdy} {bh:BH} {bs:List UInt8} {d:Nat} {W W':World} (P:PW w0 n g b bh bs d W) (hb:Below W.heap.size W W'):PW w0 n g b bh bs d W':=
 ⟨P.L.keep hb,cP P.bd hb,cP P.pc hb,P.ng⟩
theorem PW.fr {w0:World} {n g:Nat} {b:Bdy} {bh:BH} {bs bs':List UInt8} {d d':Nat} {W W':World} (P:PW w0 n g b bh bs d W) (L:Lives w0 (g+2) g b bh bs' d' W') (hf:Fr g W W'):PW w0 n g b bh bs' d' W':=
 ⟨L,heap_fr P.bd hf (by have:=P.ng;omega) (by decide),heap_fr P.pc hf (by omega) (by decide),P.ng⟩
theorem PW.cells {w0:World} {n g:Nat} {b:Bdy} {bh:BH} {bs:List UInt8} {d:Nat} {W:World} (P:PW w0 n g b bh bs d W):(aA (bdC b bh) W n)/\W.cell? ⟨g+1,0,none⟩=some (.pointer (some ⟨g,0,none⟩)):=
 ⟨cQ P.bd,cQ P.pc 0 _ rfl⟩
theorem oV {b:Bdy} (M:Nat) (hM:2<=M) (hok:Okay b.types b.locals) (hg:∀t∈b.types,t.flds.length<=M) {s:Stm} (h:stE b s=0):s.rv.args.length<=M:=by
 have hs:=lF hok h;by_cases h0:s.kind=0
 ·obtain ⟨-,-,hr⟩:=hs.asg h0;have hk:=hr.kind;obtain hv | hv | hv | hv | hv:s.rv.kind=0\/s.rv.kind=1\/s.rv.kind=2\/s.rv.kind=3\/s.rv.kind=4:=by omega
  ·have:=hr.use hv;omega
  ·rw [(hr.isb hv).2.1];simp
  all_goals
   unfold stE at h;rw [bA h0] at h;split at h
   ·cases h
   split at h
   ·exact absurd h ‹_›
   rename_i hw;have ht:=nF (Decidable.not_not.1 hw);obtain ⟨t0,t1⟩:=fM hok ht;obtain ⟨ty,hty⟩:∃ty,b.types[(tyB b s.place).1.toNat]?=some ty:=⟨_,bD (show (tyOf b.types b.locals s.place.loc s.place.proj).1.toNat<b.types.length by omega)⟩;have hm:=hg ty (List.mem_of_getElem? hty);generalize (tyB b s.place).1=t at h hty;unfold rvE at h;split at h
   ·cases h
   split at h
   ·cases h
   rename_i h2;rw [Bool.not_eq_false] at h2;unfold unusedR at h2;simp only at h2
  ·simp only [hv,if_true,if_false,reduceIte,bQ,decide_eq_true_eq,Int.reduceEq] at h2;omega
  ·simp only [hv,if_true,if_false,reduceIte,bQ,decide_eq_true_eq,Int.reduceEq] at h2;omega
  ·rw [aZ (by omega),aZ (by omega),aZ (by omega),aZ (by omega),hty] at h;simp only at h;split at h
   ·cases h
   omega
 ·rw [(hs.oth h0).2];simp
theorem oU {b:Bdy} (hok:Okay b.types b.locals) (hg:∀t∈b.types,t.flds.length<=65535) {s:Stm} (h:stE b s=0):s.rv.args.length<=1000000:=
 bZ (oV 65535 (by omega) hok hg h) (by omega)
theorem nE {b:Bdy} {t:Trm} (h:tmE b t=0):t.args.length<=1000000:=by
 have ho:=lE h;by_cases h3:t.kind=3
 ·unfold tmE at h;split at h
  ·cases h
  split at h
  ·cases h
  split at h
  ·cases h
  try rw [aZ (show ¬t.kind=1 by omega)] at h
  try rw [bA h3] at h
  split at h
  ·cases h
  split at h
  ·cases h
  omega
 ·by_cases h4:t.kind=1
  ·rw [(ho.two h4).2];decide
  ·rw [ho.noargs h4 h3];simp
theorem uN (r:ByteArray) (w:World) (hz:Sm (39 :: bl r)):Calls Tryz.prog 30 #[.string r] w fun e' w'=>e' = .returned (tx (39 :: bl r))/\Below w.heap.size w w':=by
 have hr:=gD r;obtain ⟨t,ht⟩:∃t,bl r=t:=⟨_,rfl⟩;rw [ht] at hr hz ⊢;subst hr;have hz0:¬(9223372036854775807<1+t.length):=by have:=hz;simp only [Sm,bK] at this;omega
 have ea:=ba_r #[39] t;clear ht hz;go_enter Tryz.func30,Tryz.ntmps30
 go_wp2_with fail
 go_ret;exact ⟨rfl,aX _ _⟩
theorem uM {w:World} {g q:Nat} {b:Bdy} {bh:BH} (C:Ctx w g b bh) (hq:w.cell? ⟨q,0,none⟩=some (.pointer (some ⟨g,0,none⟩))) (x:Int × Int) (hx:OkOut b.regions.length x) (hz:Sm (outP b.regions x)):
 Calls Tryz.prog 32 #[.agg #[.int .i64 x.1,.int .i64 x.2],.pointer (some ⟨q,0,none⟩)] w fun e' w'=>e' = .returned (tx (outP b.regions x))/\Below w.heap.size w w':=by
 obtain ⟨x1,x2⟩:=x
 have hzz:(rgP b.regions x1).length+(rgP b.regions x2).length+3<=140737488355328:=by
  unfold outP at hz;simp only [Sm,bB,bK,bP] at hz;omega
 have HB0:=aF (fun (o:Obj)=>(aX w.heap.size w).alloc (aY _) o);have HR1:=aF (fun (W:World) (hb:Below w.heap.size w W)=>iR b.regions g bh.A1 bh.c1 x1 W (C.keep hb).regs (C.keep hb).at_.reg hx.1 (by show (rgP b.regions x1).length<=_;omega));have HR2:=aF (fun (W:World) (hb:Below w.heap.size w W)=>iR b.regions g bh.A1 bh.c1 x2 W (C.keep hb).regs (C.keep hb).at_.reg hx.2 (by show (rgP b.regions x2).length<=_;omega));obtain ⟨r1,h1⟩:∃r,rgP b.regions x1=r:=⟨_,rfl⟩;obtain ⟨r2,h2⟩:∃r,rgP b.regions x2=r:=⟨_,rfl⟩;have HE:Hid (outP b.regions (x1,x2)=39 :: (r1 ++ [32,39] ++ r2)):=aF (by unfold outP;simp only;rw [h1,h2]);rw [h1,h2] at hzz;rw [h1] at HR1;rw [h2] at HR2;have hz1:¬(9223372036854775807<r1.length+1+1):=by omega
 have hz2:¬(9223372036854775807<r1.length+1+1+(r2.length+1)):=by omega
 have hqs:q<w.heap.size:=cE w _ hq;have hqq:∀o,((w.alloc o).drew).cell? ⟨q,0,none⟩=some (.pointer (some ⟨g,0,none⟩)):=fun o=>cN ((aX _ _).drew) (cN ((aX _ _).alloc (aY _) o) hq)
 clear hz hzz h1 h2 hx C;go_enter Tryz.func32,Tryz.ntmps32
 go_wp2_with fail
 refine cR (S:=fun X=>(aA [Value.int .i64 x1,.int .i64 x2] X w.heap.size)/\X.cell? ⟨q,0,none⟩=some (.pointer (some ⟨g,0,none⟩))) [0,1,2,5,6,7,3,4,8,9,10] (by kernel_rfl) ?_;have hS:(∀i v,[Value.int .i64 x1,.int .i64 x2][i]?=some v->(w.alloc (.cells #[.int .i64 x1,.int .i64 x2] 77)).drew.cell? ⟨w.heap.size,i,none⟩=some v)/\(w.alloc (.cells #[.int .i64 x1,.int .i64 x2] 77)).drew.cell? ⟨q,0,none⟩=some (.pointer (some ⟨g,0,none⟩)):=⟨cX w _ _,hqq _⟩;clear hqq;(iterate 6 (refine cS (v:=?_) ?_ hS ?_;rotate_left;(next=>(rintro X ⟨hX,hQ⟩;obtain ⟨s0,s1⟩:=aN hX;(try simp only [aI]);go_simp;rfl));simp only [aM]));(refine cV (fun K1 hK1=>?_);simp only [aM];rw [bA (by rfl)];go_simp);refine (HR1.out _ (HB0.out _).drew).mono ?_;rintro e' w3 ⟨rfl,hw⟩;obtain rfl:=hw.symm;refine hK1.out _ _ (fun _=>hS) ?_;refine cU (v:=tx (39 :: (r1 ++ [32]))) (by kernel_rfl) (fun _ _ _ h=>h) (Or.inl ⟨by rfl,?_⟩) hS ?_
 ·rintro X hX;(try simp only [aI]);go_simp;exact (ba_app' _ _).trans (by simp [bl])
 (simp only [aM]);(refine cV (fun K1 hK1=>?_);simp only [aM];rw [bA (by rfl)];go_simp);refine (HR2.out _ (HB0.out _).drew).mono ?_;rintro e' w3 ⟨rfl,hw⟩;obtain rfl:=hw.symm;refine hK1.out _ _ (fun _=>hS) ?_;refine cU (v:=tx (39 :: (r1 ++ 32 :: 39 :: r2))) (by kernel_rfl) (fun _ _ _ h=>h) (Or.inl ⟨by rfl,?_⟩) hS ?_
 ·rintro X hX;(try simp only [aI]);go_simp;exact (ba_app' _ _).trans (by simp [bl])
 (simp only [aM]);((refine cS (v:=?_) ?_ hS ?_;rotate_left;(next=>(rintro X -;(try simp only [aI]);go_simp;rfl));simp only [aM]))
 refine dA ?_;go_wp2_with fail
 go_ret;exact ⟨by rw [HE.out];refine congrArg (fun l=>Ending.returned (Value.string l)) (ByteArray.ext ?_);simp,(HB0.out _).drew⟩
def canB (nl:Nat) (p:Plc):Bool:=p.proj.all (fun x=>decide (x.field<65535)) && decide (p.loc<nl)
theorem xBV (nl:Nat) (l:Ln):canB nl l.place=true↔canP nl l:=by
 unfold canB canP;simp only [bQ,List.all_eq_true,decide_eq_true_eq];exact And.comm
theorem nN (b:Bdy) (bh:BH) (p:Plc) (A:Option Addr) (c:Nat) (w:World) (hl:b.locals.length<=9223372036854775807) (hp:Slc 2 RPj w A c p.proj):
 Calls Tryz.prog 45 #[.agg (bdC b bh).toArray,.agg #[.int .i64 p.loc,.slice A p.proj.length c]] w fun e' w'=>e' = .returned (.bool (canB b.locals.length p))/\Below w.heap.size w w':=by
 obtain ⟨A1,c1,A2,c2,A3,c3,A4,c4,A5,c5⟩:=bh;obtain ⟨pl,ps⟩:=p;simp only at hp;have hle:=hp.le;have hbig:=hp.big;have HPS:=aF hp;obtain ⟨R,hR⟩:∃R,canB b.locals.length ⟨pl,ps⟩=R:=⟨_,rfl⟩;have HR:Hid (R=(ps.all (fun x=>decide (x.field<65535)) && decide (pl<b.locals.length))):=aF hR.symm;rw [hR];obtain ⟨W0,hW0⟩:∃W,(w.alloc (.cells #[Value.string b.name,.slice A1 b.regions.length c1,.slice A2 b.outl.length c2,.slice A3 b.types.length c3,.slice A4 b.locals.length c4,.int .i64 b.args,.slice A5 b.blocks.length c5] 28)).alloc (.cells #[.int .i64 pl,.slice A ps.length c] 46)=W:=⟨_,rfl⟩;have hb1:Below w.heap.size w (w.alloc (.cells #[Value.string b.name,.slice A1 b.regions.length c1,.slice A2 b.outl.length c2,.slice A3 b.types.length c3,.slice A4 b.locals.length c4,.int .i64 b.args,.slice A5 b.blocks.length c5] 28)):=(aX _ _).alloc (aY _) _;have hb2:Below (w.alloc (.cells #[Value.string b.name,.slice A1 b.regions.length c1,.slice A2 b.outl.length c2,.slice A3 b.types.length c3,.slice A4 b.locals.length c4,.int .i64 b.args,.slice A5 b.blocks.length c5] 28)).heap.size (w.alloc (.cells #[Value.string b.name,.slice A1 b.regions.length c1,.slice A2 b.outl.length c2,.slice A3 b.types.length c3,.slice A4 b.locals.length c4,.int .i64 b.args,.slice A5 b.blocks.length c5] 28)) W0:=by rw [<- hW0];exact (aX _ _).alloc (aY _) _
 have HB0:=aF (hb1.trans (hb2.mono hb1.size));have hc1:=fun i v h=>cN hb2 (cX w [Value.string b.name,.slice A1 b.regions.length c1,.slice A2 b.outl.length c2,.slice A3 b.types.length c3,.slice A4 b.locals.length c4,.int .i64 b.args,.slice A5 b.blocks.length c5] 28 i v h)
 have y4:=hc1 4 _ rfl;have hc2:=cX (w.alloc (.cells #[Value.string b.name,.slice A1 b.regions.length c1,.slice A2 b.outl.length c2,.slice A3 b.types.length c3,.slice A4 b.locals.length c4,.int .i64 b.args,.slice A5 b.blocks.length c5] 28)) [.int .i64 pl,.slice A ps.length c] 46;rw [bI] at hc2;have hc3:=hc2;simp only [show (w.alloc (.cells #[Value.string b.name,.slice A1 b.regions.length c1,.slice A2 b.outl.length c2,.slice A3 b.types.length c3,.slice A4 b.locals.length c4,.int .i64 b.args,.slice A5 b.blocks.length c5] 28)).alloc (.cells [Value.int .i64 pl,.slice A ps.length c].toArray 46)=W0 from hW0] at hc3;have z0:=hc3 0 _ rfl;have z1:=hc3 1 _ rfl;have hz0:w.heap.size+1<W0.heap.size:=cE W0 _ z0;have Y4:=aF y4;have Z0:=aF z0;clear hb1 hb2 hc1 hc2 hc3 hp hR y4;unfold bdC;simp only;go_enter Tryz.func45,Tryz.ntmps45
 go_wp2_with fail
 go_loopw [10] (fun i wr=>∃k:Nat,k<=ps.length/\i = .int .i64 k/\Hid (Below W0.heap.size W0 wr)/\Hid (R=((ps.drop k).all (fun x=>decide (x.field<65535)) && decide (pl<b.locals.length)))) (fun i _=>ps.length - (intOf i).toNat)
 case atStart=>exact ⟨0,by omega,rfl,aF (aX _ _),HR⟩
 case round=>
  obtain ⟨k,hk,rfl,HB,HR⟩:=hrel;by_cases hlt:k<ps.length
  ·obtain ⟨bb,oo,rfl,hbb,hx⟩:=((HPS.out.keep RPj.keeps HB0.out).keep RPj.keeps HB.out).sl.at_ hlt;have HN:Hid (R=(decide (ps[k].field<65535) && ((ps.drop (k+1)).all (fun x=>decide (x.field<65535)) && decide (pl<b.locals.length)))):=aF (by rw [HR.out,cY hlt,cC,Bool.and_assoc]);generalize ps[k]=x at *;obtain ⟨xk,xf⟩:=x;obtain ⟨x0,x1⟩:=hx;simp only at x0 x1 HN;have hsz:=HB.out.size;clear HR;by_cases h1:xf<65535
   ·have HN2:=aF (HN.out.trans (by rw [decide_eq_true h1,Bool.true_and]));clear HN;go_wp2_with fail
    all_goals first
     | (go_roundw
        case rel=>exact ⟨k+1,by omega,by go_num,aF (HB.out.alloc (by omega) _),HN2⟩
        case measure=>simp [intOf];omega)
     | (exfalso;omega)
   ·have HN2:Hid (R=false):=aF (HN.out.trans (by rw [decide_eq_false h1,Bool.false_and]));clear HN;go_wp2_with fail
    all_goals first
     | (go_ret;exact ⟨by rw [HN2.out];rfl,HB0.out.trans ((HB.out.mono HB0.out.size).alloc (by have:=HB0.out.size;omega) _)⟩)
     | (exfalso;omega)
  ·have HN:Hid (R=decide (pl<b.locals.length)):=aF (by rw [HR.out,bE (by omega)];rfl);have y4:=cN HB.out Y4.out;have z0':=cN HB.out Z0.out;clear HR;go_wp2_with fail
   all_goals first
    | (go_ret;exact ⟨by rw [HN.out];simp [*],HB0.out.trans (HB.out.mono HB0.out.size)⟩)
    | (exfalso;omega)
def plR (b:Bdy) (p:Plc):List UInt8 × Int:=
 if chk p.loc p.proj≠0 then ([],chk p.loc p.proj) else if (b.locals.length:Int)<=p.loc then ([],3) else (placeP b.locals p,0)
theorem xEG {b:Bdy} {p:Plc} (h:¬chk p.loc p.proj=0):plR b p=([],chk p.loc p.proj):=by unfold plR;rw [bA h]
theorem xEF {b:Bdy} {p:Plc} (h:chk p.loc p.proj=0) (h2:(b.locals.length:Int)<=p.loc):plR b p=([],3):=by unfold plR;rw [aZ (by simp [h]),bA h2]
theorem xGD {b:Bdy} {p:Plc} (h:chk p.loc p.proj=0) (h2:¬(b.locals.length:Int)<=p.loc):plR b p=(placeP b.locals p,0):=by unfold plR;rw [aZ (by simp [h]),aZ h2]
theorem yY {l:Int} {ps:List Pj} (h:chk l ps=0):0<=l/\ps.length<=32:=by
 unfold chk at h;split at h
 ·cases h
 split at h
 ·cases h
 omega
theorem qR (b:Bdy) (bh:BH) (p:Plc) (A:Option Addr) (c:Nat) (w:World) (H:BdAt w b bh) (hpow:PowTab w) (hp:Slc 2 RPj w A c p.proj) (hf:∀x∈p.proj,fitJ x) (hz:chk p.loc p.proj=0->Sm (placeP b.locals p)):
 Calls Tryz.prog 15 #[.agg (bdC b bh).toArray,.agg #[.int .i64 p.loc,.slice A p.proj.length c]] w fun e' w'=>e' = .returned (.tuple #[tx (plR b p).1,.int .i64 (plR b p).2])/\Below w.heap.size w w':=by
 have HP0:=aF (fun (g:Nat) (W:World) (hb:Below w.heap.size w W) (hc:W.cell? ⟨g,6,none⟩=some (.slice bh.A4 b.locals.length bh.c4)) (h1:chk p.loc p.proj=0) (h2:¬(b.locals.length:Int)<=p.loc)=>fD b.locals g bh.A4 bh.c4 p A c W hc (H.loc.keep RLc.keeps hb) (hp.keep RPj.keeps hb) ⟨(yY h1).1,by omega⟩ hf (hz h1) (hpow.keep hb));obtain ⟨A1,c1,A2,c2,A3,c3,A4,c4,A5,c5⟩:=bh;have HCH:=aF (fun (W:World) (hb:Below w.heap.size w W)=>iL p.loc A c p.proj W (hp.keep RPj.keeps hb));have hlb:=H.loc.le;have hlg:=H.loc.big;simp only at hlb hlg;obtain ⟨W0,hW0⟩:∃W,(w.alloc (.cells #[Value.string b.name,.slice A1 b.regions.length c1,.slice A2 b.outl.length c2,.slice A3 b.types.length c3,.slice A4 b.locals.length c4,.int .i64 b.args,.slice A5 b.blocks.length c5] 28)).alloc (.cells #[.int .i64 p.loc,.slice A p.proj.length c] 46)=W:=⟨_,rfl⟩;have hb1:Below w.heap.size w (w.alloc (.cells #[Value.string b.name,.slice A1 b.regions.length c1,.slice A2 b.outl.length c2,.slice A3 b.types.length c3,.slice A4 b.locals.length c4,.int .i64 b.args,.slice A5 b.blocks.length c5] 28)):=(aX _ _).alloc (aY _) _;have hb2:Below (w.alloc (.cells #[Value.string b.name,.slice A1 b.regions.length c1,.slice A2 b.outl.length c2,.slice A3 b.types.length c3,.slice A4 b.locals.length c4,.int .i64 b.args,.slice A5 b.blocks.length c5] 28)).heap.size (w.alloc (.cells #[Value.string b.name,.slice A1 b.regions.length c1,.slice A2 b.outl.length c2,.slice A3 b.types.length c3,.slice A4 b.locals.length c4,.int .i64 b.args,.slice A5 b.blocks.length c5] 28)) W0:=by rw [<- hW0];exact (aX _ _).alloc (aY _) _
 have HB0:=aF (hb1.trans (hb2.mono hb1.size));have HC1:=aF (fun i v h=>cN hb2 (cX w [Value.string b.name,.slice A1 b.regions.length c1,.slice A2 b.outl.length c2,.slice A3 b.types.length c3,.slice A4 b.locals.length c4,.int .i64 b.args,.slice A5 b.blocks.length c5] 28 i v h));have hc2:=cX (w.alloc (.cells #[Value.string b.name,.slice A1 b.regions.length c1,.slice A2 b.outl.length c2,.slice A3 b.types.length c3,.slice A4 b.locals.length c4,.int .i64 b.args,.slice A5 b.blocks.length c5] 28)) [.int .i64 p.loc,.slice A p.proj.length c] 46;rw [bI] at hc2;simp only [show (w.alloc (.cells #[Value.string b.name,.slice A1 b.regions.length c1,.slice A2 b.outl.length c2,.slice A3 b.types.length c3,.slice A4 b.locals.length c4,.int .i64 b.args,.slice A5 b.blocks.length c5] 28)).alloc (.cells [Value.int .i64 p.loc,.slice A p.proj.length c].toArray 46)=W0 from hW0] at hc2;have z0:=hc2 0 _ rfl;have z1:=hc2 1 _ rfl;have Z0:=aF z0;have Z1:=aF z1;have HC:Hid (∀W,Below W0.heap.size W0 W->∀i v,[Value.string b.name,.slice A1 b.regions.length c1,.slice A2 b.outl.length c2,.slice A3 b.types.length c3,.slice A4 b.locals.length c4,.int .i64 b.args,.slice A5 b.blocks.length c5][i]?=some v->W.cell? ⟨w.heap.size,i,none⟩=some v):=aF (fun W hb i v h=>cN hb (HC1.out i v h));by_cases h1:chk p.loc p.proj=0
 case neg=>
  have HF:=aF (xEG (b:=b) h1);have e3:(chk p.loc p.proj != 0)=true:=by simp [h1]
  obtain ⟨e,he⟩:∃e,plR b p=e:=⟨_,rfl⟩;rw [he] at HF ⊢;generalize chk p.loc p.proj=ck at *;clear hb1 hb2 hc2 H hp h1 he;unfold bdC;simp only;go_enter Tryz.func15,Tryz.ntmps15
  go_wp2_with (go_at_call 52;refine (HCH.out _ HB0.out).mono ?_;rintro e' w1 ⟨rfl,hw⟩)
  go_ret2
  exact ⟨by rw [HF.out];rfl,HB0.out.trans (hw.mono HB0.out.size)⟩
 case pos=>
 have e3:(chk p.loc p.proj != 0)=false:=by simp [h1]
 rw [h1] at e3 HCH;by_cases h2:(b.locals.length:Int)<=p.loc
 case pos=>
  have HF:=aF (xEF (b:=b) h1 h2);obtain ⟨e,he⟩:∃e,plR b p=e:=⟨_,rfl⟩;rw [he] at HF ⊢;clear hb1 hb2 hc2 H hp h1 he;unfold bdC;simp only;go_enter Tryz.func15,Tryz.ntmps15
  go_wp2_with (go_at_call 52;refine (HCH.out _ HB0.out).mono ?_;rintro e' w1 ⟨rfl,hw⟩;have y4:=HC.out w1 hw 4 _ rfl;have z0':=cN hw Z0.out)
  go_ret2
  exact ⟨by rw [HF.out];rfl,HB0.out.trans (hw.mono HB0.out.size)⟩
 case neg=>
  have HF:=aF (xGD (b:=b) h1 h2);obtain ⟨e,he⟩:∃e,plR b p=e:=⟨_,rfl⟩;rw [he] at HF ⊢;have HPP:=aF (fun g W hb hc=>HP0.out g W hb hc h1 h2);simp only at HPP;clear hb1 hb2 hc2 H hp h1 he HP0;unfold bdC at *;simp only at *;go_enter Tryz.func15,Tryz.ntmps15
  go_wp2_with (first
   | (go_at_call 52;refine (HCH.out _ HB0.out).mono ?_;rintro e' w1 ⟨rfl,hw⟩;have y0:=HC.out w1 hw 0 _ rfl;have y1:=HC.out w1 hw 1 _ rfl;have y2:=HC.out w1 hw 2 _ rfl;have y3:=HC.out w1 hw 3 _ rfl;have y4:=HC.out w1 hw 4 _ rfl;have y5:=HC.out w1 hw 5 _ rfl;have y6:=HC.out w1 hw 6 _ rfl;have z0':=cN hw Z0.out;have z1':=cN hw Z1.out;have hlt0:w.heap.size<w1.heap.size:=cE w1 _ y0;have hlt1:w.heap.size+1<w1.heap.size:=cE w1 _ z0';have HW1:=aF (HB0.out.trans (hw.mono HB0.out.size)))
   | (go_at_call 48;refine (HPP.out w1.heap.size _ (HW1.out.alloc HW1.out.size _) (by go_simp)).mono ?_;rintro e' w2 ⟨rfl,hw2⟩))
  go_ret2
  exact ⟨by rw [HF.out];rfl,(HW1.out.alloc HW1.out.size _).trans (hw2.mono (HW1.out.alloc HW1.out.size _).size)⟩
theorem sQ {p:Int} {nr:Nat}:∀{xs:List Ln} {q:Option Ln},losE p nr q xs=0->∀l∈xs,okI nr l.reg/\0<=l.pt/\l.pt<p/\chk l.place.loc l.place.proj=0
 | [],_,_,l,hl=>by cases hl
 | x :: xs,q,h,l,hl=>by
   rw [pL] at h;split at h
   ·rename_i h0;rcases List.mem_cons.1 hl with rfl | hl
    ·unfold loE at h0;split at h0
     ·cases h0
     rename_i hr;split at h0
     ·rename_i hc;exact absurd h0 hc
     rename_i hc;exact ⟨⟨by omega,by omega⟩,by omega,by omega,Decidable.not_not.1 hc⟩
    ·exact sQ h l hl
   ·rename_i h0;exact absurd h h0
theorem jI {f s:Int}:∀{xs:List (Int × Int)} {q:Option (Int × Int)},prsE f s q xs=0->∀x∈xs,0<=x.1/\x.1<f/\0<=x.2/\x.2<s
 | [],_,_,l,hl=>by cases hl
 | x :: xs,q,h,l,hl=>by
   rw [pC] at h;split at h
   ·rename_i h0;rcases List.mem_cons.1 hl with rfl | hl
    ·unfold prE at h0;split at h0
     ·cases h0
     rename_i hr;omega
    ·exact jI h l hl
   ·rename_i h0;exact absurd h h0
structure OkFct (f:Fct) (p:Int) (nr:Nat):Prop where
 ln:∀l∈f.loans,okI nr l.reg/\0<=l.pt/\l.pt<p/\chk l.place.loc l.place.proj=0
 ed:∀x∈f.edges,0<=x.1/\x.1<p/\0<=x.2/\x.2<p
 ki:∀x∈f.killed,0<=x.1/\x.1<f.loans.length/\0<=x.2/\x.2<p
 iv:∀x∈f.inval,0<=x.1/\x.1<f.loans.length/\0<=x.2/\x.2<p
 li:∀x∈f.live,0<=x.1/\x.1<nr/\0<=x.2/\x.2<p
theorem xEX {f:Fct} {p:Int} {nr:Nat} (h:fctE f p nr=0):OkFct f p nr:=by
 unfold fctE at h;split at h
 ·cases h
 split at h
 ·exact absurd h ‹_›
 rename_i h1;split at h
 ·exact absurd h ‹_›
 rename_i h2;split at h
 ·exact absurd h ‹_›
 rename_i h3;split at h
 ·exact absurd h ‹_›
 rename_i h4;exact ⟨sQ (Decidable.not_not.1 h1),jI (Decidable.not_not.1 h2),jI (Decidable.not_not.1 h3),jI (Decidable.not_not.1 h4),jI h⟩
end
end Go.Proofs.YtmknfbfppmkcfaaGreatDoor
