/-
  Parts of the proof: V69 V72 H6 HI HJ HK KL.
-/
import Derived.Test.YtcfchohkmkilpaaGreatDoorLP0
import Derived.Test.YtcfchohkmkilpaaGreatDoorLP15
import Derived.Test.YtcfchohkmkilpaaGreatDoorLP12
import Derived.Test.YtcfchohkmkilpaaGreatDoorLP9
import Derived.Test.YtcfchohkmkilpaaGreatDoorLP8
import Derived.Test.YtcfchohkmkilpaaGreatDoorLP3
namespace Go.Proofs.YtcfchohkmkilpaaGreatDoor
set_option maxRecDepth 100000
set_option maxHeartbeats 16000000
section
open Go Go.RowKit
structure ShortB (b:Bdy):Prop where
 outl:b.outl.length<=65535
 regs:b.regions.length<=65535
 typs:b.types.length<=65535
 locs:b.locals.length<=65535
 blks:∀x∈b.blocks,x.stmts.length<=65535/\x.term.targets.length<=2/\x.term.place.proj.length<=32/\∀s∈x.stmts,s.place.proj.length<=32/\s.rv.place.proj.length<=32
theorem gF {n:Int} (h1 : -9223372036854775808<=n) (h2:n<=9223372036854775807):wrap64 n=n:=by unfold wrap64;omega
def tyZ (l:List Ty):Nat:=(l.map (fun t=>1+min t.flds.length 9000)).sum
theorem yK (l:List Ty) (t:Ty):tyZ (l ++ [t])=tyZ l+(1+min t.flds.length 9000):=by simp [tyZ]
def namesZ (b:Bdy):Nat:=szN b.name+b.outl.length+sumN b.regions+tyZ b.types+sumN (b.locals.map (·.name))+sumN (b.blocks.map (·.term.name))
def z1 (b:Bdy) (k:Nat):Nat:=szN b.name+b.outl.length+sumN (b.regions.take k)
def z2 (b:Bdy) (k:Nat):Nat:=z1 b b.regions.length+tyZ (b.types.take k)
def z3 (b:Bdy) (k:Nat):Nat:=z2 b b.types.length+sumN ((b.locals.take k).map (·.name))
def z4 (b:Bdy) (k:Nat):Nat:=z3 b b.locals.length+sumN ((b.blocks.take k).map (·.term.name))
theorem xEE (b:Bdy):z4 b b.blocks.length=namesZ b:=by
 unfold z4 z3 z2 z1 namesZ;simp only [bZ]
theorem jE {α : Type} {l:List α} {k:Nat} (h:k<l.length):l.take (k+1)=l.take k ++ [l[k]]:=bF h
theorem xCC (b:Bdy) (k:Nat) (h:k<b.regions.length):z1 b (k+1)=z1 b k+(1+min b.regions[k].size 9000):=by
 unfold z1;rw [jE h,jM];unfold szN;omega
theorem xCB (b:Bdy) (k:Nat) (h:k<b.types.length):z2 b (k+1)=z2 b k+(1+min b.types[k].flds.length 9000):=by
 unfold z2;rw [jE h,yK];omega
theorem xBZ (b:Bdy) (k:Nat) (h:k<b.locals.length):z3 b (k+1)=z3 b k+(1+min b.locals[k].name.size 9000):=by
 unfold z3;rw [jE h,bS,cJ,List.map_nil,jM];unfold szN;omega
theorem xBX (b:Bdy) (k:Nat) (h:k<b.blocks.length):z4 b (k+1)=z4 b k+(1+min b.blocks[k].term.name.size 9000):=by
 unfold z4;rw [jE h,bS,cJ,List.map_nil,jM];unfold szN;omega
theorem xEK {m a b c d:Int} (hm:0<=m/\m<=23000) (ha:0<=a/\a<=65535) (hb:0<=b/\b<=2) (hc:0<=c/\c<=32) (hd:0<=d/\d<=9000):wrap64 (m+wrap64 (wrap64 (wrap64 (wrap64 (1+a)+b)+c)+d))=m+(1+a+b+c+d):=by
 rw [gF (n:=1+a) (by omega) (by omega),gF (n:=1+a+b) (by omega) (by omega),gF (n:=1+a+b+c) (by omega) (by omega),gF (n:=1+a+b+c+d) (by omega) (by omega),gF (by omega) (by omega)]
theorem xEJ {m a b q:Int} (hm:0<=m/\m<=3000) (ha:0<=a/\a<=32) (hb:0<=b/\b<=32) (hq:0<=q/\q<=20000):wrap64 (m+wrap64 (wrap64 (a+b)+q))=m+(a+b+q):=by
 rw [gF (n:=a+b) (by omega) (by omega),gF (n:=a+b+q) (by omega) (by omega),gF (by omega) (by omega)]
theorem xCA (b:Bdy):z2 b 0=z1 b b.regions.length:=by unfold z2;simp [tyZ]
theorem xBY (b:Bdy):z3 b 0=z2 b b.types.length:=by unfold z3;simp [sumN]
theorem xBW (b:Bdy):z4 b 0=z3 b b.locals.length:=by unfold z4;simp [sumN]
theorem nX (b:Bdy) (bh:BH) (w:World) (H:BdAt w b bh) (hz:NmOk b):
 Calls Tryz.prog 40 #[.agg (bdC b bh).toArray] w fun e' w'=>(∃q:Int,e' = .returned (.int .i64 q)/\(q<=0->ShortB b->namesZ b<=3000))/\Below w.heap.size w w':=by
 obtain ⟨A1,c1,A2,c2,A3,c3,A4,c4,A5,c5⟩:=bh;have HH:=aF H;have HZ:=aF hz;have r1:=H.reg.le;have r2:=H.reg.big;have o1:=H.out.le;have o2:=H.out.big;have l1:=H.loc.le;have l2:=H.loc.big;have t1:=H.typ.le;have t2:=H.typ.big;have b1:=H.blk.le;have b2:=H.blk.big;have n1:=hz.name;simp only at r1 r2 o1 o2 l1 l2 t1 t2 b1 b2;clear H hz;unfold bdC;simp only;have HCW:=aF (cQ w [Value.string b.name,.slice A1 b.regions.length c1,.slice A2 b.outl.length c2,.slice A3 b.types.length c3,.slice A4 b.locals.length c4,.int .i64 b.args,.slice A5 b.blocks.length c5] 28);have HBW:=aF ((aX w.heap.size w).alloc (aY _) (.cells ([Value.string b.name,.slice A1 b.regions.length c1,.slice A2 b.outl.length c2,.slice A3 b.types.length c3,.slice A4 b.locals.length c4,.int .i64 b.args,.slice A5 b.blocks.length c5]).toArray 28));have HSZ:w.heap.size<(w.alloc (.cells ([Value.string b.name,.slice A1 b.regions.length c1,.slice A2 b.outl.length c2,.slice A3 b.types.length c3,.slice A4 b.locals.length c4,.int .i64 b.args,.slice A5 b.blocks.length c5]).toArray 28)).heap.size:=by simp
 go_enter Tryz.func40,Tryz.ntmps40
 go_wp2_with fail
 go_loopw [3,25] (fun v i wr=>∃(k:Nat) (m:Int),k<=b.regions.length/\i = .int .i64 k/\v = .int .i64 m/\Hid (aA (bdM b A1 c1 A2 c2 A3 c3 A4 c4 A5 c5 []) wr w.heap.size)/\Hid (Below w.heap.size w wr)/\w.heap.size<wr.heap.size/\Hid (ShortB b->((z1 b k:Nat):Int)<=m/\m<=80000+9001 * k)) (fun _ i _=>b.regions.length - (intOf i).toNat)
 case atStart=>
  refine ⟨0,_,by omega,rfl,rfl,HCW,HBW,HSZ,aF (fun hS=>?_)⟩;have h1:=hS.outl;have h2:z1 b 0=min b.name.size 9000+b.outl.length:=by unfold z1 szN;simp [sumN]
  rw [h2];try unfold wrap64
  omega
 case round=>
  obtain ⟨k,m,hk,rfl,rfl,HCC,HB,hlw,HR⟩:=hrel;clear HCW HBW HSZ;by_cases hlt:k<b.regions.length
  ·have HST:=aF (xCC b k hlt);obtain ⟨b5,o5,rfl,hb5,y⟩:=HH.out.reg.sl.at_ hlt;have hzs:=HZ.out.regs _ (bM hlt);generalize b.regions[k]=x at *;have p0:wr.cell? ⟨b5,o5+k,none⟩=some (.string x):=cO HB.out (by simpa [RN] using y);clear y;go_wp2_with fail
   go_roundw
   case rel=>
    refine ⟨k+1,_,by omega,by go_num,rfl,HCC,HB,hlw,aF (fun hS=>?_)⟩;have h1:=HR.out hS;have h2:=HST.out;have h3:=hS.regs;try unfold wrap64
    omega
   case measure=>simp [intOf];omega
  ·have HR2:Hid (ShortB b->((z2 b 0:Nat):Int)<=m/\m<=600000000):=aF (fun hS=>by
    have h1:=HR.out hS;have h3:=hS.regs;have h4:k=b.regions.length:=(by omega);rw [xCA,<- h4]
    omega)
   obtain ⟨y0,y1,y2,y3,y4,y5,y6⟩:=aS HCC.out;clear HR;go_wp2_with fail
   clear hlt hk;clear y0 y1 y2 y3 y4 y5 y6;go_loopw [3,39] (fun v i wr=>∃(k:Nat) (m:Int),k<=b.types.length/\i = .int .i64 k/\v = .int .i64 m/\Hid (aA (bdM b A1 c1 A2 c2 A3 c3 A4 c4 A5 c5 []) wr w.heap.size)/\Hid (Below w.heap.size w wr)/\w.heap.size<wr.heap.size/\Hid (ShortB b->((z2 b k:Nat):Int)<=m/\m<=600000000+9001 * k)) (fun _ i _=>b.types.length - (intOf i).toNat)
   case atStart=>exact ⟨0,m,by omega,rfl,rfl,HCC,HB,hlw,aF (fun hS=>by have:=HR2.out hS;omega)⟩
   case round=>
    clear HCC HB hlw HR2;obtain ⟨k,m,hk,rfl,rfl,HCC,HB,hlw,HR⟩:=hrel;by_cases hlt:k<b.types.length
    ·have HST:=aF (xCB b k hlt);obtain ⟨b5,o5,rfl,hb5,y⟩:=HH.out.typ.sl.at_ hlt;obtain ⟨p0,p1,p2,p3,A6,c6,p4,p5,p6,_⟩:=RTy.keeps _ _ _ w.heap.size _ _ _ (aY _) hb5 HB.out y;generalize b.types[k]=x at *;have HCC2:=aF (fun o i v hi=>cO (alF wr o) (HCC.out i v hi));have HB2:=aF (fun o=>HB.out.alloc (Nat.le_of_lt hlw) o);clear y;go_wp2_with fail
     go_roundw
     case rel=>
      refine ⟨k+1,_,by omega,by go_num,rfl,aF (HCC2.out _),aF (HB2.out _),by simp;omega,aF (fun hS=>?_)⟩;have h1:=HR.out hS;have h2:=HST.out;have h3:=hS.typs;try unfold wrap64
      omega
     case measure=>simp [intOf];omega
    ·have HR2:Hid (ShortB b->((z3 b 0:Nat):Int)<=m/\m<=1200000000):=aF (fun hS=>by
      have h1:=HR.out hS;have h3:=hS.typs;have h4:k=b.types.length:=(by omega);rw [xBY,<- h4]
      omega)
     obtain ⟨y0,y1,y2,y3,y4,y5,y6⟩:=aS HCC.out;clear HR;go_wp2_with fail
     clear hlt hk;clear y0 y1 y2 y3 y4 y5 y6;go_loopw [3,54] (fun v i wr=>∃(k:Nat) (m:Int),k<=b.locals.length/\i = .int .i64 k/\v = .int .i64 m/\Hid (aA (bdM b A1 c1 A2 c2 A3 c3 A4 c4 A5 c5 []) wr w.heap.size)/\Hid (Below w.heap.size w wr)/\w.heap.size<wr.heap.size/\Hid (ShortB b->((z3 b k:Nat):Int)<=m/\m<=1200000000+9001 * k)) (fun _ i _=>b.locals.length - (intOf i).toNat)
     case atStart=>exact ⟨0,m,by omega,rfl,rfl,HCC,HB,hlw,aF (fun hS=>by have:=HR2.out hS;omega)⟩
     case round=>
      clear HCC HB hlw HR2;obtain ⟨k,m,hk,rfl,rfl,HCC,HB,hlw,HR⟩:=hrel;by_cases hlt:k<b.locals.length
      ·have HST:=aF (xBZ b k hlt);have hzs:=HZ.out.locs _ (bM hlt);obtain ⟨b5,o5,rfl,hb5,y⟩:=HH.out.loc.sl.at_ hlt;obtain ⟨p0,p1⟩:=RLc.keeps _ _ _ w.heap.size _ _ _ (aY _) hb5 HB.out y;generalize b.locals[k]=x at *;have HCC2:=aF (fun o i v hi=>cO (alF wr o) (HCC.out i v hi));have HB2:=aF (fun o=>HB.out.alloc (Nat.le_of_lt hlw) o);clear y;go_wp2_with fail
       go_roundw
       case rel=>
        refine ⟨k+1,_,by omega,by go_num,rfl,aF (HCC2.out _),aF (HB2.out _),by simp;omega,aF (fun hS=>?_)⟩;have h1:=HR.out hS;have h2:=HST.out;have h3:=hS.locs;try unfold wrap64
        omega
       case measure=>simp [intOf];omega
      ·have HR2:Hid (ShortB b->((z4 b 0:Nat):Int)<=m):=aF (fun hS=>by
        have h1:=HR.out hS;have h4:k=b.locals.length:=(by omega);rw [xBW,<- h4]
        omega)
       obtain ⟨y0,y1,y2,y3,y4,y5,y6⟩:=aS HCC.out;clear HR;by_cases hm:3000<m
       ·go_wp2_with fail
        go_ret;exact ⟨⟨1,rfl,fun h=>absurd h (by omega)⟩,HB.out⟩
       go_wp2_with fail
       clear hlt hk;clear y0 y1 y2 y3 y4 y5 y6;go_loopw [3,71] (fun v i wr=>∃(k:Nat) (m:Int),k<=b.blocks.length/\i = .int .i64 k/\v = .int .i64 m/\Hid (aA (bdM b A1 c1 A2 c2 A3 c3 A4 c4 A5 c5 []) wr w.heap.size)/\Hid (Below w.heap.size w wr)/\w.heap.size<wr.heap.size/\Hid (ShortB b->((z4 b k:Nat):Int)<=m/\m<=23000)) (fun _ i _=>b.blocks.length - (intOf i).toNat)
       case atStart=>exact ⟨0,m,by omega,rfl,rfl,HCC,HB,hlw,aF (fun hS=>by have:=HR2.out hS;omega)⟩
       case round=>
        clear HCC HB hlw HR2 hm;obtain ⟨k,m,hk,rfl,rfl,HCC,HB,hlw,HR⟩:=hrel;by_cases hlt:k<b.blocks.length
        ·have HST:=aF (xBX b k hlt);have hzs:=HZ.out.blks _ (bM hlt);have HSB:=aF (fun (hS:ShortB b)=>hS.blks _ (bM hlt));obtain ⟨b5,o5,rfl,hb5,y⟩:=HH.out.blk.sl.at_ hlt;generalize b.blocks[k]=x at *;obtain ⟨B1,d1,B2,d2,B3,d3,B4,d4,p0,p1,p2,p3,p4,p5,p6,hs1,hs2,hs3,hs4⟩:=eV y;have HS1:=aF hs1;have HS3:=aF (fun W hb=>lP x.term.args B3 d3 W (hs3.keep ROp.keeps hb));have q1:=hs1.le;have q2:=hs1.big;have q3:=hs2.le;have q4:=hs2.big;have q5:=hs4.le;have q6:=hs4.big;replace p0:=cO HB.out p0;replace p1:=cO HB.out p1;replace p2:=cO HB.out p2;replace p3:=cO HB.out p3;replace p4:=cO HB.out p4;replace p5:=cO HB.out p5;replace p6:=cO HB.out p6;clear y hs1 hs2 hs3 hs4;have HBK:=aF (cQ wr (bkL x B1 d1 B2 d2 B3 d3 B4 d4) 55);have HCC2:=aF (fun i v hi=>cO (alF wr (.cells (bkL x B1 d1 B2 d2 B3 d3 B4 d4).toArray 55)) (HCC.out i v hi));have HB2:=aF (HB.out.alloc (Nat.le_of_lt hlw) (.cells (bkL x B1 d1 B2 d2 B3 d3 B4 d4).toArray 55));obtain ⟨gx,hgx⟩:∃g,wr.heap.size=g:=⟨_,rfl⟩;have HGX:=aF hgx;have hgl:w.heap.size<gx:=(by omega);obtain ⟨m2,hm2⟩:∃m2,wrap64 (m+wrap64 (wrap64 (wrap64 (wrap64 (1+(x.stmts.length:Int))+(x.term.targets.length:Int))+(x.term.place.proj.length:Int))+min (x.term.name.size:Int) 9000))=m2:=⟨_,rfl⟩
         have HR2:Hid (ShortB b->((z4 b (k+1):Nat):Int)<=m2):=aF (fun hS=>by
          have h1:=HR.out hS;have h2:=HST.out;obtain ⟨g1,g2,g3,_⟩:=HSB.out hS;rw [<- hm2,xEK (by omega) (by omega) (by omega) (by omega) (by omega)]
          omega)
         by_cases h3:3000<m2
         ·go_wp2_with fail
          go_ret;exact ⟨⟨1,rfl,fun h=>absurd h (by omega)⟩,HB2.out⟩
         go_wp2_with fail
         clear p0 p1 p2 p3 p4 p5 p6 hm2;go_loopw [3,103] (fun v i wr2=>∃(j:Nat) (m:Int),j<=x.stmts.length/\i = .int .i64 j/\v = .int .i64 m/\m<=3000/\Hid (aA (bdM b A1 c1 A2 c2 A3 c3 A4 c4 (some ⟨b5,o5,none⟩) c5 []) wr2 w.heap.size)/\Hid (aA (bkL x B1 d1 B2 d2 B3 d3 B4 d4) wr2 gx)/\Hid (Below w.heap.size w wr2)/\gx<wr2.heap.size/\Hid (ShortB b->((z4 b (k+1):Nat):Int)<=m)) (fun _ i _=>x.stmts.length - (intOf i).toNat)
         case atStart=>exact ⟨0,m2,by omega,rfl,rfl,by omega,HCC2,aF (by rw [<- HGX.out];exact HBK.out),HB2,by rw [<- HGX.out];simp,HR2⟩
         case round=>
          clear HCC2 HBK HB2 HR2 h3 HCC HB HR;obtain ⟨j,m,hj,rfl,rfl,hm,HCC,HBK,HB,hgw,HR⟩:=hrel;have hlw:w.heap.size<wr.heap.size:=(by omega);by_cases hjl:j<x.stmts.length
          ·have HSM:=aF (fun (hS:ShortB b)=>(HSB.out hS).2.2.2 _ (bM hjl));obtain ⟨b3,o3,rfl,hb3,hy⟩:=HS1.out.sl.at_ hjl;generalize x.stmts[j]=s at *;obtain ⟨C0,e0,C1,e1,C2,e2,n0,n1,n2,n3,n4,n5,n6,n7,n8,n9,n10,hp0,hp,hl⟩:=iY hy;have f1:=hp0.le;have f2:=hp0.big;have f3:=hp.le;have f4:=hp.big;have HOP:=aF (fun W hb=>lP s.rv.args C2 e2 W (hl.keep ROp.keeps hb));replace n0:=cO HB.out n0;replace n1:=cO HB.out n1;replace n2:=cO HB.out n2;replace n3:=cO HB.out n3;replace n4:=cO HB.out n4;replace n5:=cO HB.out n5;replace n6:=cO HB.out n6;replace n7:=cO HB.out n7;replace n8:=cO HB.out n8;replace n9:=cO HB.out n9;replace n10:=cO HB.out n10;clear hy hp0 hp hl;obtain ⟨W1,hW1⟩:∃W1,wr.alloc (.cells #[Value.int .i64 s.kind,.int .i64 s.place.loc,.slice C0 s.place.proj.length e0,.int .i64 s.rv.kind,.int .i64 s.rv.op,.int .i64 s.rv.reg,.bool s.rv.mu,.int .i64 s.rv.place.loc,.slice C1 s.rv.place.proj.length e1,.slice C2 s.rv.args.length e2,.int .i64 s.loc] 73)=W1:=⟨_,rfl⟩;have hST:∀i v,(stC s C0 e0 C1 e1 C2 e2)[i]?=some v->W1.cell? ⟨wr.heap.size,i,none⟩=some v:=by rw [<- hW1];exact cQ wr (stC s C0 e0 C1 e1 C2 e2) 73
           have hb1:Below wr.heap.size wr W1:=by rw [<- hW1];exact alF _ _
           have hb1d:Below wr.heap.size wr W1.drew:=hb1.drew;have HS0:Hid ((aA (stC s C0 e0 C1 e1 C2 e2) W1.drew wr.heap.size)/\(aA (bdM b A1 c1 A2 c2 A3 c3 A4 c4 (some ⟨b5,o5,none⟩) c5 []) W1.drew w.heap.size)/\(aA (bkL x (some ⟨b3,o3,none⟩) d1 B2 d2 B3 d3 B4 d4) W1.drew gx)/\Below w.heap.size w W1.drew):=aF ⟨hST,cP HCC.out hb1d,cP HBK.out hb1d,keep0 hb1d HB.out⟩;have hsz1:gx<W1.heap.size:=bN hgw hb1.size;clear hST hb1 hb1d;go_wp2_with fail
           clear n0 n1 n2 n3 n4 n5 n6 n7 n8 n9 n10;have hS:=HS0.out;refine cT (S:=fun X=>(aA (stC s C0 e0 C1 e1 C2 e2) X wr.heap.size)/\(aA (bdM b A1 c1 A2 c2 A3 c3 A4 c4 (some ⟨b5,o5,none⟩) c5 []) X w.heap.size)/\(aA (bkL x (some ⟨b3,o3,none⟩) d1 B2 d2 B3 d3 B4 d4) X gx)/\Below w.heap.size w X) [0,1,2,3,4,5,6,7,8,9,10,11,12,13,14,15,16,17] (by kernel_rfl) ?_;(iterate 14 (refine cR (v:=?_) ?_ hS ?_;rotate_left;(next=>(rintro X ⟨hX,_,_,_⟩;obtain ⟨-,-,s2,-,-,-,-,-,s8,s9⟩:=aV hX;(try simp only [aI]);go_simp;rfl));simp only [aM]));(refine cY (fun K1 hK1=>?_);simp only [aM];rw [bA (by rfl)];go_simp);refine (HOP.out _ hS.2.2.2).mono ?_;rintro e' w5 ⟨⟨q,rfl,hq0,hq1⟩,hb5⟩;replace hS:=bJ (cP hS.1 hb5) (bJ (cP hS.2.1 hb5) (bJ (cP hS.2.2.1 hb5) (hS.2.2.2.trans (hb5.mono hS.2.2.2.size))));have HS5:=aF hS;have hsz7:gx<w5.heap.size:=bN hsz1 hb5.size;clear hb5;refine hK1.out _ _ (fun _=>hS) ?_;clear hK1;(iterate 3 (refine cR (v:=?_) ?_ hS ?_;rotate_left;(next=>(rintro X -;(try simp only [aI]);go_simp;rfl));simp only [aM]));refine cZ ?_;clear hS;obtain ⟨m3,hm3⟩:∃m3,IntKind.i64.wrap (m+IntKind.i64.wrap (IntKind.i64.wrap ((s.place.proj.length:Int)+(s.rv.place.proj.length:Int))+q))=m3:=⟨_,rfl⟩
           have hm4:wrap64 (m+wrap64 (wrap64 ((s.place.proj.length:Int)+(s.rv.place.proj.length:Int))+q))=m3:=by
            rw [<- IntWalk.i64_left,<- IntWalk.i64_left,<- IntWalk.i64_left];exact hm3
           have HR3:Hid (ShortB b->((z4 b (k+1):Nat):Int)<=m3):=aF (fun hS=>by
            have h1:=HR.out hS;obtain ⟨g1,g2⟩:=HSM.out hS;rw [<- hm4,xEJ (by omega) (by omega) (by omega) (by omega)]
            omega)
           clear hm4;by_cases h3:3000<m3
           ·go_wp2_with fail
            go_ret;exact ⟨⟨1,rfl,fun h=>absurd h (by omega)⟩,HS5.out.2.2.2⟩
           go_wp2_with fail
           go_roundw
           case rel=>exact ⟨j+1,m3,by omega,by go_num,congrArg (Value.int .i64) hm3,by omega,aF HS5.out.2.1,aF HS5.out.2.2.1,aF HS5.out.2.2.2,hsz7,HR3⟩
           case measure=>simp [intOf];omega
          ·obtain ⟨y0,y1,y2,y3,y4,y5,y6⟩:=aS HCC.out;have k3:=HBK.out 3 _ rfl;go_wp2_with (go_at_call 68;refine (HS3.out _ HB.out).mono ?_;rintro e' w5 ⟨⟨q,rfl,hq0,hq1⟩,hb5⟩;have HB7:=aF (HB.out.trans (hb5.mono HB.out.size));have HC7:=aF (cP HCC.out hb5);have hsz7:=hb5.size;clear hb5)
           go_roundw
           case rel=>
            refine ⟨k+1,_,by omega,by go_num,rfl,HC7,HB7,by omega,aF (fun hS=>?_)⟩;have h1:=HR.out hS;try unfold wrap64
            omega
           case measure=>simp [intOf];omega
        ·have HZF:Hid (ShortB b->((namesZ b:Nat):Int)<=m):=aF (fun hS=>by
          have h1:=HR.out hS;have h4:k=b.blocks.length:=(by omega);rw [<- xEE,<- h4]
          omega)
         clear HR;by_cases h3:3000<m
         ·go_wp2_with fail
          go_ret;exact ⟨⟨1,rfl,fun h=>absurd h (by omega)⟩,HB.out⟩
         ·go_wp2_with fail
          go_ret;exact ⟨⟨0,rfl,fun _ hS=>by have:=HZF.out hS;omega⟩,HB.out⟩
theorem mP {b:Bdy} (h:chkB b=0):declC b=0:=by
 unfold chkB at h;by_cases h0:declC b=0
 ·exact h0
 ·rw [aZ h0] at h;exact absurd h h0
theorem qP {b:Bdy}:∀{l:List Blk},bksE b l=0->∀x∈l,bkE b x=0
 | [],_=>by simp
 | y :: r,h=>by
   rw [bksE] at h;by_cases he:bkE b y=0
   ·rw [bA he] at h;intro x hx;rcases List.mem_cons.1 hx with rfl | hx
    ·exact he
    ·exact qP h x hx
   ·rw [aZ he] at h;exact absurd h he
theorem oM {b:Bdy}:∀{l:List Stm},stsE b l=0->∀x∈l,stE b x=0
 | [],_=>by simp
 | y :: r,h=>by
   rw [stsE] at h;by_cases he:stE b y=0
   ·rw [bA he] at h;intro x hx;rcases List.mem_cons.1 hx with rfl | hx
    ·exact he
    ·exact oM h x hx
   ·rw [aZ he] at h;exact absurd h he
theorem sL {b:Bdy} {x:Blk} (h:bkE b x=0):x.stmts.length<=65535/\stsE b x.stmts=0/\tmE b x.term=0:=by
 unfold bkE at h;by_cases h1:65535<x.stmts.length
 ·rw [bA h1] at h;cases h
 rw [aZ h1] at h;by_cases h2:stsE b x.stmts=0
 ·rw [aZ (by simp [h2])] at h;exact ⟨by omega,h2,h⟩
 ·rw [bA h2] at h;exact absurd h h2
theorem oJ {b:Bdy} {p:Plc} (h:(tyB b p).2=0):p.proj.length<=32:=by
 have hc:=(eL h).1;unfold chk at hc;by_cases h1:p.loc<0
 ·rw [bA h1] at hc;cases hc
 rw [aZ h1] at hc;by_cases h2:32<p.proj.length
 ·rw [bA h2] at hc;cases hc
 ·omega
theorem fB {p:Plc} (h:zeroP p=true):p.proj.length<=32:=by
 unfold zeroP at h;simp only [bP,decide_eq_true_eq] at h;omega
theorem mS {b:Bdy} {p:Plc} (h:writE b p=0):p.proj.length<=32:=by
 unfold writE at h;by_cases h1:(tyB b p).2≠0
 ·rw [bA h1] at h;exact absurd h h1
 ·exact oJ (by simpa using h1)
theorem xCU {b:Bdy} {r:Rvl} {t:Int} (h:rvE b r t=0):r.place.proj.length<=32:=by
 unfold rvE at h;by_cases h0:r.kind<0\/4<r.kind
 ·rw [bA h0] at h;cases h
 rw [aZ h0] at h;by_cases h1:unusedR r=false
 ·rw [bA h1] at h;cases h
 rw [aZ h1] at h;by_cases hk:r.kind=1
 ·rw [aZ (by omega),bA hk] at h;unfold borE at h;by_cases h2:(tyB b r.place).2≠0
  ·rw [bA h2] at h;exact absurd h h2
  ·exact oJ (by simpa using h2)
 ·have h2:unusedR r=true:=by simpa using h1
  unfold unusedR at h2;refine fB ?_;by_cases k0:r.kind=0
  ·rw [bA k0] at h2;simp only [bP] at h2;exact h2.1.1.2
  rw [aZ k0,aZ hk] at h2;by_cases k2:r.kind=2
  ·rw [bA k2] at h2;simp only [bP] at h2;exact h2.1.2
  rw [aZ k2] at h2;by_cases k3:r.kind=3
  ·rw [bA k3] at h2;simp only [bP] at h2;exact h2.1.2
  rw [aZ k3] at h2;simp only [bP] at h2;exact h2.1.2
theorem lX {r:Rvl} (h:blankR r=true):r.place.proj.length<=32:=by
 unfold blankR at h;simp only [bP] at h;exact fB h.2
theorem xCN {b:Bdy} {s:Stm} (h:stE b s=0):s.place.proj.length<=32/\s.rv.place.proj.length<=32:=by
 unfold stE at h;by_cases k0:s.kind=0
 ·rw [bA k0] at h;by_cases h1:s.loc≠0
  ·rw [bA h1] at h;cases h
  rw [aZ h1] at h;by_cases h2:writE b s.place≠0
  ·rw [bA h2] at h;exact absurd h h2
  rw [aZ h2] at h;exact ⟨mS (by simpa using h2),xCU h⟩
 rw [aZ k0] at h;by_cases k1:s.kind=1
 ·rw [bA k1] at h;by_cases h1:zeroP s.place=false\/blankR s.rv=false
  ·rw [bA h1] at h;cases h
  ·exact ⟨fB (by cases e:zeroP s.place <;> simp_all),lX (by cases e:blankR s.rv <;> simp_all)⟩
 rw [aZ k1] at h;by_cases k2:s.kind=2
 ·rw [bA k2] at h;by_cases h1:zeroP s.place=false\/blankR s.rv=false\/s.loc≠0
  ·rw [bA h1] at h;cases h
  ·exact ⟨fB (by cases e:zeroP s.place <;> simp_all),lX (by cases e:blankR s.rv <;> simp_all)⟩
 rw [aZ k2] at h;cases h
theorem yP {b:Bdy} {t:Trm} (h:tmE b t=0):t.targets.length<=2/\t.place.proj.length<=32/\(t.kind=3->isIdent t.name=true):=by
 unfold tmE at h;by_cases h0:t.kind<0\/5<t.kind
 ·rw [bA h0] at h;cases h
 rw [aZ h0] at h;by_cases h1:fieldsT t=false
 ·rw [bA h1] at h;cases h
 rw [aZ h1] at h;have h2:fieldsT t=true:=by simpa using h1
 by_cases h3:t.targets.all (fun k=>decide (0<=k/\k<(b.blocks.length:Int)))=false
 ·rw [bA h3] at h;cases h
 rw [aZ h3] at h;unfold fieldsT at h2;by_cases k3:t.kind=3
 ·rw [aZ (by omega),aZ (by omega),bA k3] at h2;rw [aZ (by omega),bA k3] at h;simp only [decide_eq_true_eq] at h2;by_cases g1:isIdent t.name=false
  ·rw [bA g1] at h;cases h
  rw [aZ g1] at h;by_cases g2:65535<t.args.length
  ·rw [bA g2] at h;cases h
  rw [aZ g2] at h;by_cases g3:opsE b t.args []≠0
  ·rw [bA g3] at h;exact absurd h g3
  rw [aZ g3] at h;exact ⟨by omega,mS h,fun _=>by simpa using g1⟩
 by_cases k4:t.kind=4
 ·rw [aZ (by omega),aZ (by omega),aZ k3,bA k4] at h2;rw [aZ (by omega),aZ k3,bA k4] at h;simp only [bP,decide_eq_true_eq] at h2;by_cases g1:(tyB b t.place).2≠0
  ·rw [bA g1] at h;exact absurd h g1
  ·exact ⟨by omega,oJ (by simpa using g1),fun h=>absurd h k3⟩
 refine ⟨?_,?_,fun h=>absurd h k3⟩
 all_goals
  by_cases k0:t.kind=0
  ·rw [bA k0] at h2;simp only [bP,decide_eq_true_eq] at h2;first | omega | exact fB h2.1.2
  ·rw [aZ k0] at h2;by_cases k1:t.kind=1
   ·rw [bA k1] at h2;simp only [bP,decide_eq_true_eq] at h2;first | omega | exact fB h2.1.2
   ·rw [aZ k1,aZ k3,aZ k4] at h2;simp only [bP,decide_eq_true_eq] at h2;first | omega | exact fB h2.1.2
theorem xS {b:Bdy} (h:chkB b=0):bksE b b.blocks=0:=by
 have hd:=mP h;unfold chkB at h;rwa [bA hd] at h
theorem xR {b:Bdy} (h:chkB b=0):ShortB b:=by
 have D:=eN (mP h);refine ⟨D.nout,D.nreg,D.ntyp,D.nloc,fun x hx=>?_⟩;obtain ⟨h1,h2,h3⟩:=sL (qP (xS h) x hx);obtain ⟨t1,t2,-⟩:=yP h3;exact ⟨h1,t1,t2,fun s hs=>xCN (oM h2 s hs)⟩
def LocIn (b:Bdy) (x:Int):Prop:=0<=x/\x<(b.locals.length:Int)
theorem gQ {b:Bdy}:∀{l:List Opd} {fs:List Int},opsE b l fs=0->∀o∈l,opE b o=0
 | [],_,_=>by simp
 | x :: r,[],h=>by
   rw [opsE] at h;split at h
   ·rename_i he;intro o ho;rcases List.mem_cons.1 ho with rfl | ho
    ·exact he
    ·exact gQ h o ho
   ·exact absurd h ‹_›
 | x :: r,f :: fs,h=>by
   rw [opsE] at h;split at h
   ·rename_i he;split at h
    ·intro o ho;rcases List.mem_cons.1 ho with rfl | ho
     ·exact he
     ·exact gQ h o ho
    ·cases h
   ·exact absurd h ‹_›
theorem nO {b:Bdy} {p:Plc} (h:(tyB b p).2=0):LocIn b p.loc:=(eL h).2
theorem xFA {b:Bdy} {o:Opd} (h:opE b o=0) (hk:o.kind=0\/o.kind=1):LocIn b o.place.loc:=by
 unfold opE at h;split at h
 ·cases h
 split at h
 ·cases h
 split at h
 ·cases h
 rw [aZ (by omega)] at h;split at h
 ·exact absurd h ‹_›
 ·exact nO (Decidable.not_not.1 ‹_›)
theorem jB {b:Bdy} {l:List Opd} (h:∀o∈l,opE b o=0):∀x∈opU l,LocIn b x:=fun x hx=>by
 obtain ⟨o,ho,rfl⟩:=List.mem_map.1 hx;rw [List.mem_filter,decide_eq_true_eq] at ho;exact xFA (h o ho.1) ho.2
theorem kJ {c:Prop} [Decidable c] {x y:Int}:y∈ifU c x↔c/\y=x:=by
 unfold ifU;split <;> simp_all
theorem xEO {b:Bdy} {r:Rvl} {t:Int} (ht:∃ty,b.types[t.toNat]?=some ty) (h:rvE b r t=0):(∀x∈opU r.args,LocIn b x)/\(r.kind=1->LocIn b r.place.loc):=by
 unfold rvE at h;split at h
 ·cases h
 rename_i h1;split at h
 ·cases h
 rename_i h2;split at h
 ·exact ⟨jB (gQ h),fun e=>by omega⟩
 split at h
 ·rename_i hk;rw [Bool.not_eq_false] at h2;unfold unusedR at h2;simp only [hk,Int.reduceEq,if_false,if_true,bP,decide_eq_true_eq] at h2;have h3:=bU h2.2;refine ⟨by rw [h3];simp [opU],fun _=>?_⟩;unfold borE at h;split at h
  ·exact absurd h ‹_›
  ·exact nO (Decidable.not_not.1 ‹_›)
 have key:∀{tab:List (Int × Int)},operE b r t tab=0->∀o∈r.args,opE b o=0:=fun h=>by
  unfold operE at h;split at h
  ·cases h
  split at h
  ·exact absurd h ‹_›
  ·exact gQ (Decidable.not_not.1 ‹_›)
 split at h
 ·exact ⟨jB (key h),fun e=>by omega⟩
 split at h
 ·exact ⟨jB (key h),fun e=>by omega⟩
 obtain ⟨ty,ht⟩:=ht;rw [ht] at h;simp only at h;split at h
 ·cases h
 ·exact ⟨jB (gQ h),fun e=>by omega⟩
theorem qR {b:Bdy} {p:Plc} (h:writE b p=0):(tyB b p).2=0:=by
 unfold writE at h;split at h
 ·exact absurd h ‹_›
 ·exact Decidable.not_not.1 ‹_›
theorem xEM {b:Bdy} (hok:Okay b.types b.locals) {s:Stm} (h:stE b s=0):∀x∈usS s,LocIn b x:=by
 unfold usS;unfold stE at h;split
 ·rename_i hk;rw [bA hk] at h;split at h
  ·cases h
  split at h
  ·exact absurd h ‹_›
  rename_i hw;have hp:=qR (Decidable.not_not.1 hw);obtain ⟨t0,t1⟩:=fW hok hp;obtain ⟨h1,h2⟩:=xEO (b:=b) ⟨_,bD (show (tyOf b.types b.locals s.place.loc s.place.proj).1.toNat<b.types.length by omega)⟩ h;intro x hx;rcases List.mem_append.1 hx with hx | hx
  ·rcases List.mem_append.1 hx with hx | hx
   ·exact h1 x hx
   ·obtain ⟨e1,rfl⟩:=kJ.1 hx;exact h2 e1
  ·obtain ⟨_,rfl⟩:=kJ.1 hx;exact nO hp
 ·simp
theorem xEI {b:Bdy} {t:Trm} (h:tmE b t=0):∀x∈usT t,LocIn b x:=by
 unfold tmE at h;split at h
 ·cases h
 rename_i h1;split at h
 ·cases h
 rename_i h2;rw [Bool.not_eq_false] at h2;unfold fieldsT at h2;split at h
 ·cases h
 unfold usT;intro x hx;have hk:t.kind=0\/t.kind=1\/t.kind=2\/t.kind=3\/t.kind=4\/t.kind=5:=by omega
 rcases hk with hk | hk | hk | hk | hk | hk
 ·simp only [hk,if_true,bP,decide_eq_true_eq] at h2;have h3:=bU h2.1.1.2;rw [h3] at hx;simp [opU,ifU,hk] at hx
 ·simp only [hk,Int.reduceEq,if_false,if_true,bP,decide_eq_true_eq] at h2;rw [bA hk] at h;rcases List.mem_append.1 hx with hx | hx
  ·match e:t.args,h2.1.1.2 with
   | [o],_=>
     rw [e] at h hx;simp only at h;split at h
     ·exact absurd h ‹_›
     ·exact jB (fun y hy=>by rw [List.mem_singleton.1 hy];exact Decidable.not_not.1 ‹_›) x hx
  ·obtain ⟨e,_⟩:=kJ.1 hx;omega
 ·simp only [hk,Int.reduceEq,if_false,bP,decide_eq_true_eq] at h2;have h3:=bU h2.1.1.2;rw [h3] at hx;simp [opU,ifU,hk] at hx
 ·rw [aZ (by omega),bA hk] at h;split at h
  ·cases h
  split at h
  ·cases h
  split at h
  ·exact absurd h ‹_›
  rename_i h4;rcases List.mem_append.1 hx with hx | hx
  ·exact jB (gQ (Decidable.not_not.1 h4)) x hx
  ·obtain ⟨_,rfl⟩:=kJ.1 hx;exact nO (qR h)
 ·simp only [hk,Int.reduceEq,if_false,if_true,bP,decide_eq_true_eq] at h2;have h3:=bU h2.1.2;rw [aZ (by omega),aZ (by omega),bA hk] at h;rcases List.mem_append.1 hx with hx | hx
  ·rw [h3] at hx;simp [opU] at hx
  ·obtain ⟨_,rfl⟩:=kJ.1 hx;split at h
   ·exact absurd h ‹_›
   ·exact nO (Decidable.not_not.1 ‹_›)
 ·simp only [hk,Int.reduceEq,if_false,bP,decide_eq_true_eq] at h2;have h3:=bU h2.1.1.2;rw [h3] at hx;simp [opU,ifU,hk] at hx
theorem xEG {b:Bdy} (h:chkB b=0) {p x:Int} (hx:x∈usP b.blocks p):LocIn b x:=by
 unfold usP at hx;split at hx
 ·cases hx
 rename_i i k hl;split at hx
 ·cases hx
 rename_i y hy;obtain ⟨_,h2,h3⟩:=sL (qP (xS h) y (List.mem_of_getElem? hy));unfold usB at hx;split at hx
 ·rename_i s hs;exact xEM (eN (mP h)).okay (oM h2 s (List.mem_of_getElem? hs)) x hx
 ·exact xEI h3 x hx
end
section
open Go Go.RowKit Go.Maps
theorem mJ {x:Int} {t:List Int} (h:∀y∈t,y<x) (l:List Int):insI x (t ++ l)=t ++ insI x l:=by
 induction t with
 | nil=>rfl
 | cons z r ih=>
   have hz:=h z (by simp);rw [List.cons_append,insI,aZ (by omega),aZ (by omega),ih (fun y hy=>h y (by simp [hy]))];rfl
theorem xDO {x y:Int} {t:List Int} (h:∃z∈t,x<=z):insI x (t ++ [y])=insI x t ++ [y]:=by
 induction t with
 | nil=>obtain ⟨z,hz,_⟩:=h;cases hz
 | cons z r ih=>
   rw [List.cons_append,insI,insI];split
   ·rfl
   ·split
    ·rfl
    ·rw [ih (by
      obtain ⟨u,hu,hxu⟩:=h;rcases List.mem_cons.1 hu with e | hu
      ·subst e;omega
      ·exact ⟨u,hu,hxu⟩)]
     rfl
structure InsS (x:Int) (l:List Int) (m:Nat) (pl:Bool) (s:List Int):Prop where
 yes:pl=true->(∃z∈l.take m,x<=z)/\s=insI x (l.take m)
 no:pl=false->(∀z∈l.take m,z<x)/\s=l.take m
theorem InsS.len {x:Int} {l:List Int} {m:Nat} {pl:Bool} {s:List Int} (h:InsS x l m pl s):s.length<=l.length+1:=by
 have hi:∀t:List Int,(insI x t).length<=t.length+1:=by
  intro t;induction t with
  | nil=>simp [insI]
  | cons z r ih=>
    unfold insI;split
    ·simp
    ·split
     ·simp
     ·simp only [bK];omega
 cases pl with
 | true=>have:=hi (l.take m);rw [(h.yes rfl).2];rw [cM] at this;omega
 | false=>rw [(h.no rfl).2,cM];omega
theorem InsS.zero (x:Int) (l:List Int):InsS x l 0 false []:=⟨fun h=>(by cases h),fun _=>⟨by simp,by simp⟩⟩
theorem eT {l:List Int} {m:Nat} {y:Int} (hy:l[m]?=some y):l.take (m+1)=l.take m ++ [y]:=by rw [List.take_add_one,hy];rfl
theorem InsS.step {x:Int} {l:List Int} {m:Nat} {s:List Int} {y:Int} (h:InsS x l m true s) (hy:l[m]?=some y):InsS x l (m+1) true (s ++ [y]):=by
 obtain ⟨⟨z,hz,hx⟩,h2⟩:=h.yes rfl;have hz':∃z∈l.take m,x<=z:=⟨z,hz,hx⟩;exact ⟨fun _=>⟨⟨z,by rw [eT hy];simp [hz],hx⟩,by rw [eT hy,h2,xDO hz']⟩,fun g=>by cases g⟩
theorem InsS.low {x:Int} {l:List Int} {m:Nat} {s:List Int} {y:Int} (h:InsS x l m false s) (hy:l[m]?=some y) (hxy:y<x):InsS x l (m+1) false (s ++ [y]):=by
 obtain ⟨h1,h2⟩:=h.no rfl;refine ⟨fun g=>(by cases g),fun _=>⟨fun z hz=>?_,by rw [eT hy,h2]⟩⟩;rw [eT hy,cK,bR] at hz;rcases hz with hz | rfl
 ·exact h1 z hz
 ·exact hxy
theorem InsS.put {x:Int} {l:List Int} {m:Nat} {s:List Int} {y:Int} (h:InsS x l m false s) (hy:l[m]?=some y) (hxy:x<y):InsS x l (m+1) true ((s ++ [x]) ++ [y]):=by
 obtain ⟨h1,h2⟩:=h.no rfl;refine ⟨fun _=>⟨⟨y,by rw [eT hy];simp,by omega⟩,?_⟩,fun g=>by cases g⟩;rw [eT hy,mJ h1,h2,insI,bA hxy];simp
theorem InsS.same {x:Int} {l:List Int} {m:Nat} {s:List Int} (h:InsS x l m false s) (hy:l[m]?=some x):InsS x l (m+1) true (s ++ [x]):=by
 obtain ⟨h1,h2⟩:=h.no rfl;refine ⟨fun _=>⟨⟨x,by rw [eT hy];simp,by omega⟩,?_⟩,fun g=>by cases g⟩;rw [eT hy,mJ h1,h2,insI,aZ (by omega),bA rfl]
theorem InsS.end1 {x:Int} {l:List Int} {s:List Int} (h:InsS x l l.length true s):s=insI x l:=by
 have:=(h.yes rfl).2;rwa [bZ] at this
theorem InsS.end0 {x:Int} {l:List Int} {s:List Int} (h:InsS x l l.length false s):s ++ [x]=insI x l:=by
 obtain ⟨h1,h2⟩:=h.no rfl;rw [bZ] at h1 h2;have:=mJ h1 [];rw [List.append_nil] at this;rw [this,h2];rfl
theorem fS {w W w5:World} {v:Value} {n:Nat} {xs:List Value} {o:Obj} (hb:Below w.heap.size w W) (ho:W.ownsRow w.heap.size 3 1 v n xs) (hg:(W.alloc o).grownBy w5 v.ownBlock):Below w.heap.size w w5:=
 (hb.alloc hb.size o).grown hg (by have:=hb.size;simp;omega) (fun g hge=>(ho.lt g hge).1)
theorem gP {w:World} {base:Nat} {v:Value} {s:List Int} {x:Int} (h:w.ownsRow base 3 1 v (s.length+1) (s.map (Value.int .i64) ++ [.int .i64 x])):w.ownsRow base 3 1 v (s ++ [x]).length ((s ++ [x]).map (Value.int .i64)):=by
 rw [bB,bS];exact h
theorem wU (l:List Int) (x:Int) (A:Option Addr) (c:Nat) (w:World) (hs:Slc 1 RInt w A c l) (hl:l.length<=1000000):
 Calls Tryz.prog 39 #[.slice A l.length c,.int .i64 x] w fun e' w'=>∃A' c',e' = .returned (.slice A' (insI x l).length c')/\Slc 1 RInt w' A' c' (insI x l)/\Below w.heap.size w w':=by
 have HL:=aF hs;have hlc:=hs.le;have hcb:=hs.big;obtain ⟨i0,hi0,hz0,hz1,hz2⟩:=info_parts dU;obtain ⟨R,hR⟩:∃R,insI x l=R:=⟨_,rfl⟩;rw [hR];have HR:=aF hR;clear hs hR;go_enter Tryz.func39,Tryz.ntmps39
 go_wp2_with fail
 go_loopw [5,6,7] (fun v pv iv wr=>∃(m:Nat) (pl:Bool) (s:List Int),iv = .int .i64 m/\m<=l.length/\pv = .bool pl/\Hid (wr.ownsRow w.heap.size 3 1 v s.length (s.map (Value.int .i64)))/\Hid (InsS x l m pl s)/\Hid (Below w.heap.size w wr)) (fun _ _ i _=>l.length - (intOf i).toNat)
 case atStart=>exact ⟨0,false,[],rfl,by omega,rfl,aF (World.ownsRow_nil _ _ _ _),aF (InsS.zero x l),aF (aX _ _)⟩
 case round=>
  obtain ⟨m,pl,s,rfl,hm,rfl,HO,HS,HB⟩:=hrel;have hsl:=HS.out.len;have hlw:=HB.out.size;obtain ⟨VA,vc,rfl⟩:=dE HO.out;by_cases hlt:m<l.length
  case neg=>
   have hme:m=l.length:=by omega
   subst hme;cases pl
   ·go_wp2_with (at_builtin;refine wpList_append_own _ rfl _ _ 34 rfl w.heap.size 3 i0 (.int .i64 0) 1 8 Tryz.underlying34 hi0 hz0 hz1 hz2 rfl (by decide) _ _ _ rfl (HO.out.alloc (.cells #[.int .i64 x] 3)) ⟨wr.heap.size,0,none⟩ 1 1 [.int .i64 x] rfl rfl (cell_one_new _ _ _) (fun u hu=>by simp at hu;subst hu;rfl) (by unfold maxLen;omega) (by omega) (by simp;omega) ?_;intro v' w5 hown' hgrow _)
    have hb5:=fS HB.out HO.out hgrow;obtain ⟨A',c',rfl,hs1,-⟩:=fD (R:=RInt) (fun _ _ _ _ _ h=>h) (gP hown') rfl;have HE:=HS.out.end0;go_ret;exact ⟨A',c',by rw [<- HR.out,<- HE];simp,by rw [<- HR.out,<- HE];exact hs1,hb5⟩
   ·obtain ⟨A',c',hv,hs1,-⟩:=fD (R:=RInt) (fun _ _ _ _ _ h=>h) HO.out rfl;have HE:=HS.out.end1;have HS1:=aF hs1;clear hs1;injection hv with e1 e2 e3
    subst e1 e3;clear e2;go_wp2_with fail
    go_ret;exact ⟨VA,vc,by rw [<- HR.out,<- HE];rfl,by rw [<- HR.out,<- HE];exact HS1.out,HB.out⟩
  case pos=>
  obtain ⟨lb,lo,hLA,hlb,hl0⟩:=HL.out.sl.at_ hlt;have c0:w.cell? ⟨lb,lo+m,none⟩=some (.int .i64 l[m]):=by simpa [RInt] using hl0
  have t0:=cO HB.out c0;have C0:=aF c0;clear c0;have hy:l[m]?=some l[m]:=bD hlt;have HYY:=aF hy;generalize l[m]=y at *;rw [hLA];clear hl0 hy;cases pl
  case true=>
   go_wp2_with (at_builtin;refine wpList_append_own _ rfl _ _ 34 rfl w.heap.size 3 i0 (.int .i64 0) 1 8 Tryz.underlying34 hi0 hz0 hz1 hz2 rfl (by decide) _ _ _ rfl (HO.out.alloc (.cells #[.int .i64 y] 3)) ⟨wr.heap.size,0,none⟩ 1 1 [.int .i64 y] rfl rfl (cell_one_new _ _ _) (fun u hu=>by simp at hu;subst hu;rfl) (by unfold maxLen;omega) (by omega) (by simp;omega) ?_;intro v' w5 hown' hgrow _)
   have HB5:=aF (fS HB.out HO.out hgrow);go_roundw
   case rel=>exact ⟨m+1,true,s ++ [y],by go_num,by omega,rfl,aF (gP hown'),aF (HS.out.step HYY.out),HB5⟩
   case measure=>simp [intOf];omega
  case false=>
   rcases Int.lt_trichotomy x y with h | h | h
   ·go_wp2_with (first
     | (at_builtin;refine wpList_append_own _ rfl _ _ 34 rfl w.heap.size 3 i0 (.int .i64 0) 1 8 Tryz.underlying34 hi0 hz0 hz1 hz2 rfl (by decide) _ _ _ rfl (HO.out.alloc (.cells #[.int .i64 x] 3)) ⟨wr.heap.size,0,none⟩ 1 1 [.int .i64 x] rfl rfl (cell_one_new _ _ _) (fun u hu=>by simp at hu;subst hu;rfl) (by unfold maxLen;omega) (by omega) (by simp;omega) ?_;intro v' w5 hown' hgrow _;obtain ⟨s5,hs5,HO5⟩:∃s5,Hid (s5=s ++ [x])/\Hid (w5.ownsRow w.heap.size 3 1 v' s5.length (s5.map (Value.int .i64))):=⟨_,aF rfl,aF (gP hown')⟩;have HB5:=aF (fS HB.out HO.out hgrow);have hl5:=HB5.out.size;have hsl5:s5.length<=s.length+1:=(by rw [hs5.out];simp);have t5:=cO HB5.out C0.out;clear t0 hown' hgrow;obtain ⟨VA5,vc5,rfl⟩:=dE HO5.out)
     | (at_builtin;refine wpList_append_own _ rfl _ _ 34 rfl w.heap.size 3 i0 (.int .i64 0) 1 8 Tryz.underlying34 hi0 hz0 hz1 hz2 rfl (by decide) _ _ _ rfl (HO5.out.alloc (.cells #[.int .i64 y] 3)) ⟨w5.heap.size,0,none⟩ 1 1 [.int .i64 y] rfl rfl (cell_one_new _ _ _) (fun u hu=>by simp at hu;subst hu;rfl) (by unfold maxLen;omega) (by omega) (by simp;omega) ?_;intro v7 w7 hown7 hgrow7 _))
    have HB7:=aF (fS HB5.out HO5.out hgrow7);go_roundw
    case rel=>exact ⟨m+1,true,s5 ++ [y],by go_num,by omega,rfl,aF (gP hown7),aF (by rw [hs5.out];exact HS.out.put HYY.out h),HB7⟩
    case measure=>simp [intOf];omega
   ·subst h;go_wp2_with (at_builtin;refine wpList_append_own _ rfl _ _ 34 rfl w.heap.size 3 i0 (.int .i64 0) 1 8 Tryz.underlying34 hi0 hz0 hz1 hz2 rfl (by decide) _ _ _ rfl (HO.out.alloc (.cells #[.int .i64 x] 3)) ⟨wr.heap.size,0,none⟩ 1 1 [.int .i64 x] rfl rfl (cell_one_new _ _ _) (fun u hu=>by simp at hu;subst hu;rfl) (by unfold maxLen;omega) (by omega) (by simp;omega) ?_;intro v' w5 hown' hgrow _)
    have HB5:=aF (fS HB.out HO.out hgrow);go_roundw
    case rel=>exact ⟨m+1,true,s ++ [x],by go_num,by omega,rfl,aF (gP hown'),aF (HS.out.same HYY.out),HB5⟩
    case measure=>simp [intOf];omega
   ·go_wp2_with (at_builtin;refine wpList_append_own _ rfl _ _ 34 rfl w.heap.size 3 i0 (.int .i64 0) 1 8 Tryz.underlying34 hi0 hz0 hz1 hz2 rfl (by decide) _ _ _ rfl (HO.out.alloc (.cells #[.int .i64 y] 3)) ⟨wr.heap.size,0,none⟩ 1 1 [.int .i64 y] rfl rfl (cell_one_new _ _ _) (fun u hu=>by simp at hu;subst hu;rfl) (by unfold maxLen;omega) (by omega) (by simp;omega) ?_;intro v' w5 hown' hgrow _)
    have HB5:=aF (fS HB.out HO.out hgrow);go_roundw
    case rel=>exact ⟨m+1,false,s ++ [y],by go_num,by omega,rfl,aF (gP hown'),aF (HS.out.low HYY.out h),HB5⟩
    case measure=>simp [intOf];omega
theorem fG (l xs:List Int) (x:Int):insL l (xs ++ [x])=insI x (insL l xs):=by simp [insL]
theorem rO {xs:List Opd} {m:Nat} {o:Opd} (h:xs[m]?=some o):opU (xs.take (m+1))=opU (xs.take m) ++ ifU (o.kind=0\/o.kind=1) o.place.loc:=by
 unfold opU ifU;rw [List.take_add_one,h];simp only [List.filter_append,bS,Option.toList_some];congr 1
 by_cases e:o.kind=0\/o.kind=1
 ·rw [bA e,List.filter_cons_of_pos (by simp [e])];rfl
 ·rw [aZ e,List.filter_cons_of_neg (by simp [e])];rfl
theorem wK {xs:List Opd} {m:Nat} {z:Int} (h:z∈opU (xs.take m)):z∈opU xs:=by
 unfold opU at h ⊢;rw [List.mem_map] at h ⊢;obtain ⟨o,h1,h2⟩:=h;rw [List.mem_filter] at h1;exact ⟨o,List.mem_filter.2 ⟨List.mem_of_mem_take h1.1,h1.2⟩,h2⟩
def Sm (l:List Int):Prop:=l.Pairwise (· < ·)/\∀z∈l,0<=z/\z<((1000000:Nat):Int)
theorem Sm.nil:Sm []:=⟨List.Pairwise.nil,fun _ h=>by cases h⟩
theorem Sm.len {l:List Int} (h:Sm l):l.length<=1000000:=Srt.len (P:=fun z=>z∈l) ⟨h.1,fun _=>Iff.rfl⟩ h.2
theorem Sm.ins {l:List Int} (h:Sm l) {x:Int} (hx:0<=x/\x<((1000000:Nat):Int)):Sm (insI x l):=⟨hG x l h.1,fun z hz=>((insI_mem x z l).1 hz).elim (fun e=>e ▸ hx) (h.2 z)⟩
theorem Sm.insL {l:List Int} (h:Sm l):∀{xs:List Int},(∀x∈xs,0<=x/\x<((1000000:Nat):Int))->Sm (insL l xs)
 | [],_=>h
 | x :: xs,hx=>(h.ins (hx x (by simp))).insL (xs:=xs) (fun y hy=>hx y (by simp [hy]))
theorem wJ {w:World} {b o:Nat} {x:Opd} (h:ROp w w.heap.size b o x):∃A c,w.cell? ⟨b,o,none⟩=some (.int .i64 x.kind)/\w.cell? ⟨b,o+1,none⟩=some (.int .i64 x.place.loc)/\w.cell? ⟨b,o+2,none⟩=some (.slice A x.place.proj.length c)/\w.cell? ⟨b,o+3,none⟩=some (.int .i64 x.n)/\Slc 2 RPj w A c x.place.proj:=by
 obtain ⟨k0,⟨p0,A0,c0,p1,p2,p3,p4⟩,n0⟩:=h;exact ⟨A0,c0,k0,p0,p1,n0,⟨p4,p2,p3⟩⟩
theorem rJ (l:List Int) (xs:List Opd) (A:Option Addr) (c:Nat) (B:Option Addr) (d:Nat) (w:World) (hs:Slc 1 RInt w A c l) (ho:Slc 4 ROp w B d xs) (hl:Sm l) (hx:∀z∈opU xs,0<=z/\z<((1000000:Nat):Int)):
 Calls Tryz.prog 38 #[.slice A l.length c,.slice B xs.length d] w fun e' w'=>∃A' c',e' = .returned (.slice A' (insL l (opU xs)).length c')/\Slc 1 RInt w' A' c' (insL l (opU xs))/\Below w.heap.size w w':=by
 have HI:=aF (fun (s:List Int) (x:Int) (A:Option Addr) (c:Nat) (W:World) h g=>wU s x A c W h g);have HS0:=aF hs;have HO:=aF ho;have hod:=ho.le;have hob:=ho.big;have HL:=aF hl;have HX:=aF hx;clear hs ho hl hx;go_enter Tryz.func38,Tryz.ntmps38
 go_wp2_with fail
 go_loopw [0,5] (fun v q wr=>∃(m:Nat) (s:List Int) (A':Option Addr) (c':Nat),q = .int .i64 m/\m<=xs.length/\v = .slice A' s.length c'/\Hid (Slc 1 RInt wr A' c' s)/\Hid (s=insL l (opU (xs.take m)))/\Hid (Below w.heap.size w wr)) (fun _ q _=>xs.length - (intOf q).toNat)
 case atStart=>exact ⟨0,l,A,c,rfl,by omega,rfl,HS0,aF rfl,aF (aX _ _)⟩
 case round=>
  obtain ⟨m,s,A',c',rfl,hm,rfl,HS,HE,HB⟩:=hrel;have hsl:s.length<=1000000:=by rw [HE.out];exact (HL.out.insL (fun z hz=>HX.out z (wK hz))).len
  by_cases hlt:m<xs.length
  case neg=>
   have hme:m=xs.length:=by omega
   subst hme;have HE2:Hid (s=insL l (opU xs)):=aF (by rw [HE.out,bZ]);go_wp2_with fail
   go_ret;exact ⟨A',c',by rw [<- HE2.out];rfl,by rw [<- HE2.out];exact HS.out,HB.out⟩
  case pos=>
  obtain ⟨ob,oo,hOA,hob2,ho0⟩:=(HO.out.keep ROp.keeps HB.out).sl.at_ hlt;obtain ⟨PA,pc,p0,p1,-⟩:=wJ ho0;have HT:=aF (rO (bD hlt));generalize xs[m].kind=kd at *;generalize xs[m].place.loc=lc at *;rw [hOA];clear ho0;by_cases hk:kd=0\/kd=1
  ·have HT2:Hid (insL l (opU (xs.take (m+1)))=insI lc s):=aF (by rw [HT.out];unfold ifU;rw [bA hk,fG,HE.out]);rcases hk with rfl | rfl
   all_goals
    go_wp2_with (go_at_call 39;refine (HI.out s lc A' c' _ HS.out hsl).mono ?_;rintro e' w1 ⟨A1,c1,rfl,hs1,hb1⟩)
    go_roundw
    case rel=>exact ⟨m+1,insI lc s,A1,c1,by go_num,by omega,rfl,aF hs1,aF HT2.out.symm,aF (HB.out.trans (hb1.mono HB.out.size))⟩
    case measure=>simp [intOf];omega
  ·have HT2:Hid (insL l (opU (xs.take (m+1)))=s):=aF (by rw [HT.out];unfold ifU;rw [aZ hk,List.append_nil,HE.out]);have hk0:(kd == 0)=false:=by simp;omega
   have hk1:(kd == 1)=false:=by simp;omega
   go_wp2_with fail
   go_roundw
   case rel=>exact ⟨m+1,s,A',c',by go_num,by omega,rfl,HS,aF HT2.out.symm,HB⟩
   case measure=>simp [intOf];omega
def dfV:Option Int->Value
 | none=> .tuple #[.int .i64 0,.bool false]
 | some x=> .tuple #[.int .i64 x,.bool true]
theorem zT (b:Bdy) (bh:BH) (p:Int) (w:World) (H:BdAt w b bh) (hc:cntB b.blocks<=1000000000000) (hp : -9223372036854775808<=p/\p<=9223372036854775807):
 Calls Tryz.prog 12 #[.agg (bdC b bh).toArray,.int .i64 p] w fun e' w'=>e' = .returned (dfV (dfP b.blocks p))/\Below w.heap.size w w':=by
 have HL:=aF (fun (W:World) (hb:Below w.heap.size w W)=>rE b bh p W (H.keep hb) hc hp);have HBLK:=aF H.blk;have hbl:=H.blk.le;have hbg:=H.blk.big;have HY:=aF (cQ w [Value.string b.name,.slice bh.A1 b.regions.length bh.c1,.slice bh.A2 b.outl.length bh.c2,.slice bh.A3 b.types.length bh.c3,.slice bh.A4 b.locals.length bh.c4,.int .i64 b.args,.slice bh.A5 b.blocks.length bh.c5] 28);clear H hc;unfold bdC at *;cases hloc:locB b.blocks p with
 | none=>
   rw [sE hloc];rw [hloc] at HL;unfold lcV at HL;clear hloc;go_enter Tryz.func12,Tryz.ntmps12
   go_wp2_with (go_at_call 35;refine (HL.out _ ((aX _ _).alloc (aY _) _)).mono ?_;rintro e' w1 ⟨rfl,hb1⟩)
   go_ret2
   exact ⟨rfl,((aX _ _).alloc (aY _) _).trans (hb1.mono (by simp))⟩
 | some ik=>
   obtain ⟨i,k⟩:=ik;obtain ⟨x,hx,hk,hi⟩:=mI hloc;rw [xBS hloc hx];rw [hloc] at HL;unfold lcV at HL;obtain ⟨bb,oo,hA,hbb,hxx⟩:=HBLK.out.sl.at_ hi;obtain ⟨A1,c1,A2,c2,A3,c3,A4,c4,p0,p1,p2,p3,p4,p5,p6,hs1,hs2,-⟩:=eV hxx;rw [show b.blocks[i]=x from by rw [bD hi] at hx;injection hx] at p0 p1 p2 p3 p4 p5 p6 hs1 hs2;rw [hA] at HL HY ⊢;clear hA hxx hs2 hloc hx;have hal:Below w.heap.size w (w.alloc (.cells ([Value.string b.name,.slice bh.A1 b.regions.length bh.c1,.slice bh.A2 b.outl.length bh.c2,.slice bh.A3 b.types.length bh.c3,.slice bh.A4 b.locals.length bh.c4,.int .i64 b.args,.slice (some ⟨bb,oo,none⟩) b.blocks.length bh.c5]).toArray 28)):=(aX _ _).alloc (aY _) _;have HAL:=aF hal;have HP:=aF (bJ p0 (bJ p1 (bJ p2 (bJ p3 (bJ p4 (bJ p5 p6))))));have hki:(i:Int)<(b.blocks.length:Int):=by omega
   clear p0 p1 p2 p3 p4 p5 p6;obtain ⟨R,hR⟩:∃R,dfB x k=R:=⟨_,rfl⟩;rw [hR];have HR:=aF hR;clear hR;by_cases hks:k<x.stmts.length
   ·have hks2:(k:Int)<(x.stmts.length:Int):=(by omega);obtain ⟨sb,so,hSA,hsb,hss⟩:=hs1.sl.at_ hks;obtain ⟨A0,c0,A,c,B,d,q0,q1,q2,q3,q4,q5,q6,q7,q8,q9,q10,-⟩:=iY hss;have HD:Hid (R=dfS x.stmts[k]):=aF (by rw [<- HR.out];unfold dfB;rw [bD hks]);have HQ:=aF (bJ q0 (bJ q1 (bJ q2 (bJ q3 (bJ q4 (bJ q5 (bJ q6 (bJ q7 (bJ q8 (bJ q9 q10))))))))));rw [hSA] at HP;clear q0 q1 q2 q3 q4 q5 q6 q7 q8 q9 q10 hss hs1 HR;generalize x.stmts[k]=s at *;have hlen:0<=(s.place.proj.length:Int):=(by omega);by_cases h1:s.kind=1
    ·have HE:Hid (R=some s.loc):=aF (by rw [HD.out];unfold dfS;rw [aZ (by omega),bA h1]);go_enter Tryz.func12,Tryz.ntmps12
     go_wp2_with (go_at_call 35;refine (HL.out _ hal).mono ?_;rintro e' w1 ⟨rfl,hb1⟩;have hbw:=HAL.out.trans (hb1.mono HAL.out.size);have y6:=cO hb1 (HY.out 6 _ rfl);have m0:=cO hbw HP.out.1;have r0:=cO hbw HQ.out.1;have r1:=cO hbw HQ.out.2.1;have r2:=cO hbw HQ.out.2.2.1;have r3:=cO hbw HQ.out.2.2.2.1;have r4:=cO hbw HQ.out.2.2.2.2.1;have r5:=cO hbw HQ.out.2.2.2.2.2.1;have r6:=cO hbw HQ.out.2.2.2.2.2.2.1;have r7:=cO hbw HQ.out.2.2.2.2.2.2.2.1;have r8:=cO hbw HQ.out.2.2.2.2.2.2.2.2.1;have r9:=cO hbw HQ.out.2.2.2.2.2.2.2.2.2.1;have r10:=cO hbw HQ.out.2.2.2.2.2.2.2.2.2.2;have hl1:=hbw.size)
     go_ret2
     exact ⟨by rw [HE.out];rfl,hbw.alloc hl1 _⟩
    ·by_cases h0:s.kind=0
     ·by_cases h2:s.place.proj.length=0
      ·have HE:Hid (R=some s.place.loc):=aF (by rw [HD.out];unfold dfS;rw [bA h0,bA h2]);go_enter Tryz.func12,Tryz.ntmps12
       go_wp2_with (go_at_call 35;refine (HL.out _ hal).mono ?_;rintro e' w1 ⟨rfl,hb1⟩;have hbw:=HAL.out.trans (hb1.mono HAL.out.size);have y6:=cO hb1 (HY.out 6 _ rfl);have m0:=cO hbw HP.out.1;have r0:=cO hbw HQ.out.1;have r1:=cO hbw HQ.out.2.1;have r2:=cO hbw HQ.out.2.2.1;have r3:=cO hbw HQ.out.2.2.2.1;have r4:=cO hbw HQ.out.2.2.2.2.1;have r5:=cO hbw HQ.out.2.2.2.2.2.1;have r6:=cO hbw HQ.out.2.2.2.2.2.2.1;have r7:=cO hbw HQ.out.2.2.2.2.2.2.2.1;have r8:=cO hbw HQ.out.2.2.2.2.2.2.2.2.1;have r9:=cO hbw HQ.out.2.2.2.2.2.2.2.2.2.1;have r10:=cO hbw HQ.out.2.2.2.2.2.2.2.2.2.2;have hl1:=hbw.size)
       go_ret2
       exact ⟨by rw [HE.out];rfl,hbw.alloc hl1 _⟩
      ·have HE:Hid (R=none):=aF (by rw [HD.out];unfold dfS;rw [bA h0,aZ h2]);go_enter Tryz.func12,Tryz.ntmps12
       go_wp2_with (go_at_call 35;refine (HL.out _ hal).mono ?_;rintro e' w1 ⟨rfl,hb1⟩;have hbw:=HAL.out.trans (hb1.mono HAL.out.size);have y6:=cO hb1 (HY.out 6 _ rfl);have m0:=cO hbw HP.out.1;have r0:=cO hbw HQ.out.1;have r1:=cO hbw HQ.out.2.1;have r2:=cO hbw HQ.out.2.2.1;have r3:=cO hbw HQ.out.2.2.2.1;have r4:=cO hbw HQ.out.2.2.2.2.1;have r5:=cO hbw HQ.out.2.2.2.2.2.1;have r6:=cO hbw HQ.out.2.2.2.2.2.2.1;have r7:=cO hbw HQ.out.2.2.2.2.2.2.2.1;have r8:=cO hbw HQ.out.2.2.2.2.2.2.2.2.1;have r9:=cO hbw HQ.out.2.2.2.2.2.2.2.2.2.1;have r10:=cO hbw HQ.out.2.2.2.2.2.2.2.2.2.2;have hl1:=hbw.size)
       go_ret2
       exact ⟨by rw [HE.out];rfl,hbw.alloc hl1 _⟩
     ·have HE:Hid (R=none):=aF (by rw [HD.out];unfold dfS;rw [aZ h0,aZ h1]);go_enter Tryz.func12,Tryz.ntmps12
      go_wp2_with (go_at_call 35;refine (HL.out _ hal).mono ?_;rintro e' w1 ⟨rfl,hb1⟩;have hbw:=HAL.out.trans (hb1.mono HAL.out.size);have y6:=cO hb1 (HY.out 6 _ rfl);have m0:=cO hbw HP.out.1;have r0:=cO hbw HQ.out.1;have r1:=cO hbw HQ.out.2.1;have r2:=cO hbw HQ.out.2.2.1;have r3:=cO hbw HQ.out.2.2.2.1;have r4:=cO hbw HQ.out.2.2.2.2.1;have r5:=cO hbw HQ.out.2.2.2.2.2.1;have r6:=cO hbw HQ.out.2.2.2.2.2.2.1;have r7:=cO hbw HQ.out.2.2.2.2.2.2.2.1;have r8:=cO hbw HQ.out.2.2.2.2.2.2.2.2.1;have r9:=cO hbw HQ.out.2.2.2.2.2.2.2.2.2.1;have r10:=cO hbw HQ.out.2.2.2.2.2.2.2.2.2.2;have hl1:=hbw.size)
      go_ret2
      exact ⟨by rw [HE.out];rfl,hbw.alloc hl1 _⟩
   ·have hks2:¬(k:Int)<(x.stmts.length:Int):=(by omega);have HD:Hid (R=dfT x.term):=aF (by rw [<- HR.out];unfold dfB;rw [cE (by omega)]);clear HR;generalize x.term=s at *;by_cases h3:s.kind=3
    ·by_cases h2:s.place.proj.length=0
     ·have HE:Hid (R=some s.place.loc):=aF (by rw [HD.out];unfold dfT;rw [bA ⟨h3,h2⟩]);go_enter Tryz.func12,Tryz.ntmps12
      go_wp2_with (go_at_call 35;refine (HL.out _ hal).mono ?_;rintro e' w1 ⟨rfl,hb1⟩;have hbw:=HAL.out.trans (hb1.mono HAL.out.size);have y6:=cO hb1 (HY.out 6 _ rfl);have m0:=cO hbw HP.out.1;have r0:=cO hbw HP.out.2.1;have r1:=cO hbw HP.out.2.2.1;have r2:=cO hbw HP.out.2.2.2.1;have r3:=cO hbw HP.out.2.2.2.2.1;have r4:=cO hbw HP.out.2.2.2.2.2.1;have r5:=cO hbw HP.out.2.2.2.2.2.2;have hl1:=hbw.size)
      go_ret2
      exact ⟨by rw [HE.out];rfl,hbw.alloc hl1 _⟩
     ·have HE:Hid (R=none):=aF (by rw [HD.out];unfold dfT;rw [aZ (fun h=>h2 h.2)]);go_enter Tryz.func12,Tryz.ntmps12
      go_wp2_with (go_at_call 35;refine (HL.out _ hal).mono ?_;rintro e' w1 ⟨rfl,hb1⟩;have hbw:=HAL.out.trans (hb1.mono HAL.out.size);have y6:=cO hb1 (HY.out 6 _ rfl);have m0:=cO hbw HP.out.1;have r0:=cO hbw HP.out.2.1;have r1:=cO hbw HP.out.2.2.1;have r2:=cO hbw HP.out.2.2.2.1;have r3:=cO hbw HP.out.2.2.2.2.1;have r4:=cO hbw HP.out.2.2.2.2.2.1;have r5:=cO hbw HP.out.2.2.2.2.2.2;have hl1:=hbw.size)
      go_ret2
      exact ⟨by rw [HE.out];rfl,hbw.alloc hl1 _⟩
    ·have HE:Hid (R=none):=aF (by rw [HD.out];unfold dfT;rw [aZ (fun h=>h3 h.1)]);go_enter Tryz.func12,Tryz.ntmps12
     go_wp2_with (go_at_call 35;refine (HL.out _ hal).mono ?_;rintro e' w1 ⟨rfl,hb1⟩;have hbw:=HAL.out.trans (hb1.mono HAL.out.size);have y6:=cO hb1 (HY.out 6 _ rfl);have m0:=cO hbw HP.out.1;have r0:=cO hbw HP.out.2.1;have r1:=cO hbw HP.out.2.2.1;have r2:=cO hbw HP.out.2.2.2.1;have r3:=cO hbw HP.out.2.2.2.2.1;have r4:=cO hbw HP.out.2.2.2.2.2.1;have r5:=cO hbw HP.out.2.2.2.2.2.2;have hl1:=hbw.size)
     go_ret2
     exact ⟨by rw [HE.out];rfl,hbw.alloc hl1 _⟩
end
section
open Go Go.RowKit
def exS0:Stm:=⟨0,⟨0,[]⟩,⟨0,0,0,false,⟨0,[]⟩,[⟨2,⟨0,[]⟩,0⟩]⟩,0⟩
def exS1:Stm:=⟨0,⟨1,[]⟩,⟨0,0,0,false,⟨0,[]⟩,[⟨0,⟨0,[]⟩,0⟩]⟩,0⟩
def exT0:Trm:=⟨2,[],[],⟨0,[]⟩,⟨#[]⟩⟩
def exK:Blk:=⟨[exS0,exS1],exT0⟩
def exV:Bdy:=⟨⟨#[102]⟩,[],[],[⟨2,false,0,0,[]⟩],[⟨⟨#[120]⟩,0⟩,⟨⟨#[121]⟩,0⟩],0,[exK]⟩
theorem xDR:cntB exV.blocks=3:=by decide
theorem xD {p:Int} {i k:Nat} (h:locB exV.blocks p=some (i,k)):i=0/\p=k/\k<3:=by
 obtain ⟨x,h1,h2,h3⟩:=eD.1 h
 have hi:i=0:=by
  have:=(List.getElem?_eq_some_iff.1 h1).1;have hl:exV.blocks.length=1:=rfl;omega
 subst hi;obtain rfl:exK=x:=Option.some.inj h1;have hl:exK.stmts.length=2:=rfl;rw [stB_zero] at h3;omega
theorem mM {p x:Int} (h:x∈usP exV.blocks p):x=0/\p=1:=by
 cases e:locB exV.blocks p with
 | none=>rw [iC e] at h;cases h
 | some q=>
   obtain ⟨i,k⟩:=q;obtain ⟨rfl,rfl,hk⟩:=xD e;rw [uR e (show exV.blocks[0]?=some exK from rfl)] at h;rcases (show k=0\/k=1\/k=2 by omega) with rfl | rfl | rfl
   ·have:usB exK 0=[]:=by decide
    rw [this] at h;cases h
   ·have:usB exK 1=[0]:=by decide
    rw [this] at h;exact ⟨List.mem_singleton.1 h,rfl⟩
   ·have:usB exK 2=[]:=by decide
    rw [this] at h;cases h
theorem sA:usP exV.blocks 1=[0]:=by decide
theorem sC:dfP exV.blocks 0=some 0:=by decide
theorem sB {x p:Int}:Lv exV.blocks x p↔x=0/\p=1:=by
 constructor
 ·intro h;refine h.least (L:=fun p x=>x=0/\p=1) (fun p x h=>mM h) ?_;rintro p q x ⟨rfl,rfl⟩ ⟨i,k,y,h1,h2,h3⟩ hd;obtain ⟨rfl,rfl,hk⟩:=xD h1;obtain rfl:exK=y:=Option.some.inj h2;have hl:exK.stmts.length=2:=rfl;split at h3
  ·have:k=0:=by omega
   subst this;exact absurd sC hd
  ·obtain ⟨t,ht,_⟩:=h3;have:exK.term.targets=[]:=rfl;rw [this] at ht;cases ht
 ·rintro ⟨rfl,rfl⟩;exact .use (by rw [sA];simp)
theorem uG {ll:List (List Int)} (hl:ll.length=cntB exV.blocks) (h:∀(k:Nat) (l:List Int),ll[k]?=some l->Srt l (fun z=>Lv exV.blocks z (k:Int))):ll=[[],[0],[]]:=by
 rw [xDR] at hl;match ll,hl with
 | [a,b,c],_=>
   have ha:a=[]:=(h 0 a rfl).empty (fun z hz=>by have:=(sB.1 hz).2;omega);have hc:c=[]:=(h 2 c rfl).empty (fun z hz=>by have:=(sB.1 hz).2;omega);have hb:b=[0]:=(h 1 b rfl).uniq (t:=[0]) ⟨by simp,fun x=>by rw [bR];exact ⟨fun e=>sB.2 ⟨e,rfl⟩,fun e=>(sB.1 e).1⟩⟩;rw [ha,hb,hc]
end
end Go.Proofs.YtcfchohkmkilpaaGreatDoor
