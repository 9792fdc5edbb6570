/- squeezed. SHA-256: what a block does to the  -/
import Derived.Test.YtliomcphdnppnaaGreatDoorK13
import Derived.Deep.Cut
import Derived.Great.BuildSlice
import Derived.Lib.Mul64
import Derived.Laws.Bits64
import Derived.Laws.Externs
set_option linter.unusedVariables false
set_option linter.unusedSimpArgs false
set_option maxRecDepth 100000
set_option maxHeartbeats 3200000
namespace Go.Proofs.YtliomcphdnppnaaGreatDoor
open Go.RowKit
theorem jcw{P:Prop}(h:P:=by
 clear hW9 xR MB;go_wp2_with fail
 go_roundw
 case rel=>exact⟨k+1,by go_num,by omega,hWn,mh⟩
 case measure=>simp[intOf];omega):P:=h
def tZ (l:List Int):Array Value:=(l.map (Value.int .u32)).toArray
def tW (l:List Int) (i:Nat):Int:=l.getD i 0
theorem oL (l:List Int):(tZ l).size=l.length:=by simp[tZ]
theorem rO (l:List Int) (i:Nat) (h:i<l.length):(tZ l)[i]? = some (.int .u32 (tW l i)):=by
 simp[tZ,tW,h]
theorem mJ (l:List Int) (i:Nat) (v:Int):(tZ l).setIfInBounds i (.int .u32 v)=tZ (l.set i v):=by
 simp[tZ,List.map_set]
def rn (bs:List UInt8) (i:Nat):Int:=((bs.getD i 0).toNat:Int)
def P4 (b0 b1 b2 b3:Int):Int:=bits .or .u32 (bits .or .u32 (bits .or .u32 (IntKind.u32.wrap (IntKind.u32.wrap b0*16777216)) (IntKind.u32.wrap (IntKind.u32.wrap b1*65536))) (IntKind.u32.wrap (IntKind.u32.wrap b2*256))) (IntKind.u32.wrap b3)
def I1 (x y w7 w16:Int):Int :=
 IntKind.u32.wrap (IntKind.u32.wrap (IntKind.u32.wrap (bits .xor .u32 (bits .xor .u32 (sT 32768 131072 y) (sT 8192 524288 y)) (y/1024)+w7)+bits .xor .u32 (bits .xor .u32 (sT 33554432 128 x) (sT 16384 262144 x)) (x/8))+w16)
structure S8 where
 a:Int
 b:Int
 c:Int
 d:Int
 e:Int
 f:Int
 g:Int
 h:Int
def S8.cells (s:S8):Array Value:=#[.int .u32 s.a,.int .u32 s.b,.int .u32 s.c,.int .u32 s.d,.int .u32 s.e,.int .u32 s.f,.int .u32 s.g,.int .u32 s.h]
def S8.list (s:S8):List Int:=[s.a,s.b,s.c,s.d,s.e,s.f,s.g,s.h]
theorem S8.cells_eq (s:S8):s.cells=tZ s.list:=rfl
theorem S8.one (s:S8):s.cells.all (·.oneCell')=true:=by simp[S8.cells,Value.oneCell']
def tP (s:S8) (k w:Int):Int :=
 s.h+bits .xor .u32 (bits .xor .u32 (sT 67108864 64 s.e) (sT 2097152 2048 s.e)) (sT 128 33554432 s.e)+bits .xor .u32 (bits .and .u32 s.e s.f) (bits .and .u32 (bits .xor .u32 IntKind.u32.max s.e) s.g)+k+w
def uP (s:S8):Int :=
 bits .xor .u32 (bits .xor .u32 (sT 1073741824 4 s.a) (sT 524288 8192 s.a)) (sT 1024 4194304 s.a)+bits .xor .u32 (bits .xor .u32 (bits .and .u32 s.a s.b) (bits .and .u32 s.a s.c)) (bits .and .u32 s.b s.c)
def Oh (s:S8) (k w:Int):S8:=⟨(tP s k w+uP s)%4294967296,s.a,s.b,s.c,(s.d+tP s k w)%4294967296,s.e,s.f,s.g⟩
def sG (K W:List Int) (h:S8):Nat→S8
 | 0=>h
 | k+1=>Oh (sG K W h k) (tW K k) (tW W k)
def xM (bs:List UInt8):Nat→List Int
 | 0=>List.replicate 64 0
 | k+1=>(xM bs k).set k (if k<16 then P4 (rn bs (4*k)) (rn bs (4*k+1)) (rn bs (4*k+2)) (rn bs (4*k+3))
   else I1 (tW (xM bs k) (k-15)) (tW (xM bs k) (k-2)) (tW (xM bs k) (k-7)) (tW (xM bs k) (k-16)))
theorem tw (bs:List UInt8):∀ k,(xM bs k).length=64
 | 0=>by simp[xM]
 | k+1=>by simp[xM,tw bs k]
theorem S6 (bs:List UInt8) (k:Nat) (h:k<16):(tZ (xM bs k)).setIfInBounds k (.int .u32 (P4 (rn bs (4*k)) (rn bs (4*k+1)) (rn bs (4*k+2)) (rn bs (4*k+3))))=tZ (xM bs (k+1)):=by
 rw[mJ,xM,if_pos h]
theorem S5 (bs:List UInt8) (k:Nat) (h:16≤k):(tZ (xM bs k)).setIfInBounds k (.int .u32 (I1 (tW (xM bs k) (k-15)) (tW (xM bs k) (k-2)) (tW (xM bs k) (k-7)) (tW (xM bs k) (k-16))))=tZ (xM bs (k+1)):=by
 rw[mJ,xM,if_neg (by omega)]
def Yw (h s:List Int):Nat→List Int
 | 0=>h
 | k+1=>(Yw h s k).set k (IntKind.u32.wrap (tW (Yw h s k) k+tW s k))
theorem eN (h s:List Int):∀ k,(Yw h s k).length=h.length
 | 0=>rfl
 | k+1=>by simp[Yw,eN h s k]
def mN (K:List Int) (h:S8) (bs:List UInt8):S8 :=
 let s:=sG K (xM bs 64) h 64
 ⟨IntKind.u32.wrap (h.a+s.a),IntKind.u32.wrap (h.b+s.b),IntKind.u32.wrap (h.c+s.c),IntKind.u32.wrap (h.d+s.d),IntKind.u32.wrap (h.e+s.e),IntKind.u32.wrap (h.f+s.f),IntKind.u32.wrap (h.g+s.g),IntKind.u32.wrap (h.h+s.h)⟩
theorem Kq:(Tryz.prog.info? 137).map (·.size)=some 8:=by kernel_rfl
theorem mK:(Tryz.prog.info? 135).map (·.size)=some 1:=by kernel_rfl
theorem nW {H:Snap}{b off c:Nat}{bs:List UInt8}(hb:IsBytes H (some ⟨b,off,none⟩) c bs) (i:Nat) (hi:i<bs.length):H.cell? ⟨b,off+i,none⟩=some (.int .u8 (rn bs i)):=by
 obtain⟨b',off',e,h⟩:=hb.at_ (by omega)
 cases e
 rw[h i hi]
 simp[rn,hi]
theorem Xk {H:Snap}{b off c:Nat}{bs:List UInt8}(hb:IsBytes H (some ⟨b,off,none⟩) c bs) (hl:bs.length=64) {hg kg:Nat}{h0:S8}{KK:List Int}(w:World) (hH:Holds w H)
  (hh:Blk w hg 137 h0.cells) (hKb:Blk w kg 136 (tZ KK)) (hK64:KK.length=64) :
  Calls Tryz.prog 103 #[.pointer (some ⟨hg,0,none⟩),.pointer (some ⟨kg,0,none⟩),.slice (some ⟨b,off,none⟩) 64 c] w fun e w'=>(∃ v,e=.returned v)∧Blk w' hg 137 (mN KK h0 bs).cells∧w.grownBy w' (some hg):=by
 have HN:=Hh (Blk.new w 136 (tZ (xM bs 0)));have HB:=Hh hb;have HL:=Hh hl;have HH:=Hh hH;have H64:=Hh hK64;clear hb hl hH hK64;go_enter Tryz.func103,Tryz.ntmps103
 go_wp2_with fail
 go_loopw [17] (fun v17 wr=>∃ k:Nat,v17=.int .i64 (k:Int)∧k≤64∧Blk wr w.heap.size 136 (tZ (xM bs k))∧Below w.heap.size w wr) (fun v17 _=>(64-intOf v17).toNat)
 case atStart=>exact⟨0,rfl,by omega,HN.out,zo _ _⟩
 case round =>
 obtain⟨k,rfl,Gz,hW,nD⟩:=hrel
 by_cases yu:(k:Int)<64
 ·by_cases Lv:(k:Int)<16
  ·obtain⟨j0,FT⟩:∃ j,4*k=j:=⟨_,rfl⟩
   obtain⟨j1,QS⟩:∃ j,4*k+1=j:=⟨_,rfl⟩
   obtain⟨j2,FU⟩:∃ j,4*k+2=j:=⟨_,rfl⟩
   obtain⟨j3,hj3⟩:∃ j,4*k+3=j:=⟨_,rfl⟩
   have W0:IntKind.i64.wrap (4*(k:Int))=(j0:Int):=by rw[← FT];exact IntWalk.i64_in _ (by omega)
   have W1:IntKind.i64.wrap ((j0:Int)+1)=(j1:Int):=by rw[← QS,← FT];exact IntWalk.i64_in _ (by omega)
   have W2:IntKind.i64.wrap ((j0:Int)+2)=(j2:Int):=by rw[← FU,← FT];exact IntWalk.i64_in _ (by omega)
   have W3:IntKind.i64.wrap ((j0:Int)+3)=(j3:Int):=by rw[← hj3,← FT];exact IntWalk.i64_in _ (by omega)
   have l0:(j0:Int)<64:=by omega
   have l1:(j1:Int)<64:=by omega
   have l2:(j2:Int)<64:=by omega
   have l3:(j3:Int)<64:=by omega
   have b0:=nW HB.out j0 (by have:=HL.out;omega);have b1:=nW HB.out j1 (by have:=HL.out;omega);have b2:=nW HB.out j2 (by have:=HL.out;omega);have b3:=nW HB.out j3 (by have:=HL.out;omega);have HJ:=Hh (And.intro FT (And.intro QS (And.intro FU hj3)));clear FT QS FU hj3;have HHr:=Hh (HH.out.below nD (Nat.le_refl _));have MB:=hW.drew;go_upto_region 5 with fail
   refine zw 35 (fun wx=>wx.cell? ⟨b,off+j0,none⟩=some (.int .u8 (rn bs j0))∧wx.cell? ⟨b,off+j1,none⟩=some (.int .u8 (rn bs j1))∧wx.cell? ⟨b,off+j2,none⟩=some (.int .u8 (rn bs j2))∧wx.cell? ⟨b,off+j3,none⟩=some (.int .u8 (rn bs j3))) (by kernel_rfl) (⟨HHr.out.drew.cell b0,HHr.out.drew.cell b1,HHr.out.drew.cell b2,HHr.out.drew.cell b3⟩) (fun zy=>?_)
   refine Tk 0 rfl zy ?_
   refine Tk 1 rfl zy ?_
   refine Tk 2 rfl zy ?_
   refine Tk 3 rfl zy ?_
   refine Tk 4 rfl zy ?_
   refine Tk 5 rfl zy ?_
   refine Tk 6 rfl zy ?_
   refine Tk 7 rfl zy ?_
   refine Tk 8 rfl zy ?_
   refine Tk 9 rfl zy ?_
   refine Tk 10 rfl zy ?_
   refine Tk 11 rfl zy ?_
   refine Tk 12 rfl zy ?_
   refine Tk 13 rfl zy ?_
   refine Tk 14 rfl zy ?_
   refine Tk 15 rfl zy ?_
   refine Tk 16 rfl zy ?_
   refine Tk 17 rfl zy ?_
   refine Tk 18 rfl zy ?_
   refine Tk 19 rfl zy ?_
   refine Tk 20 rfl zy ?_
   refine Tk 21 rfl zy ?_
   refine Tk 22 rfl zy ?_
   refine Tk 23 rfl zy ?_
   refine Tk 24 rfl zy ?_
   refine Tk 25 rfl zy ?_
   refine Tk 26 rfl zy ?_
   refine Tk 27 rfl zy ?_
   refine Tk 28 rfl zy ?_
   refine Tk 29 rfl zy ?_
   refine Tk 30 rfl zy ?_
   refine Tk 31 rfl zy ?_
   refine Tk 32 rfl zy ?_
   refine Tk 33 rfl zy ?_
   refine Tk 34 rfl zy ?_
   refine To 35 rfl fun K hK=>?_
   rw[if_pos (by rfl)]
   refine xt _ _ _ rfl w.heap.size k (.int .u32 (P4 (rn bs j0) (rn bs j1) (rn bs j2) (rn bs j3))) rfl rfl _ _ MB mK (by rw[oL,tw];omega) rfl fun w9 hW9 xR=>?_
   refine Kz hK ?_
   clear hK K
   refine Wd ?_
   clear zy;have mh:Below w.heap.size w w9:=nD.drew.grown xR nD.size (by rintro q ⟨⟩;exact Nat.le_refl _)
   have hWn:Blk w9 w.heap.size 136 (tZ (xM bs (k+1))):=by
    obtain⟨rfl,rfl,rfl,rfl⟩:=HJ.out;rw[S6 _ _ (by omega)]at hW9
    exact hW9
   exact jcw
  have Sn:16≤k:=by omega
  obtain⟨a15,Gn⟩:∃ j,k-15=j:=⟨_,rfl⟩
  obtain⟨a2,ii⟩:∃ j,k-2=j:=⟨_,rfl⟩
  obtain⟨a7,Wc⟩:∃ j,k-7=j:=⟨_,rfl⟩
  obtain⟨a16,Gp⟩:∃ j,k-16=j:=⟨_,rfl⟩
  have W15:IntKind.i64.wrap ((k:Int)-15)=(a15:Int):=by rw[← Gn,show((k-15:Nat):Int)=(k:Int)-15 by omega];exact IntWalk.i64_in _ (by omega)
  have W2:IntKind.i64.wrap ((k:Int)-2)=(a2:Int):=by rw[← ii,show((k-2:Nat):Int)=(k:Int)-2 by omega];exact IntWalk.i64_in _ (by omega)
  have W7:IntKind.i64.wrap ((k:Int)-7)=(a7:Int):=by rw[← Wc,show((k-7:Nat):Int)=(k:Int)-7 by omega];exact IntWalk.i64_in _ (by omega)
  have W16:IntKind.i64.wrap ((k:Int)-16)=(a16:Int):=by rw[← Gp,show((k-16:Nat):Int)=(k:Int)-16 by omega];exact IntWalk.i64_in _ (by omega)
  have l15:(a15:Int)<64:=by omega
  have l2:(a2:Int)<64:=by omega
  have l7:(a7:Int)<64:=by omega
  have l16:(a16:Int)<64:=by omega
  have MB:=hW.drew;have b15:=MB.cell a15 (rO _ _ (by rw[tw];omega));have b2:=MB.cell a2 (rO _ _ (by rw[tw];omega));have b7:=MB.cell a7 (rO _ _ (by rw[tw];omega));have b16:=MB.cell a16 (rO _ _ (by rw[tw];omega));have HJ:=Hh (And.intro Gn (And.intro ii (And.intro Wc Gp)));obtain⟨x15,Hw⟩:∃ x,tW (xM bs k) a15=x:=⟨_,rfl⟩
  obtain⟨x2,X8⟩:∃ x,tW (xM bs k) a2=x:=⟨_,rfl⟩
  obtain⟨x7,jz⟩:∃ x,tW (xM bs k) a7=x:=⟨_,rfl⟩
  obtain⟨x16,Hy⟩:∃ x,tW (xM bs k) a16=x:=⟨_,rfl⟩
  rw[Hw]at b15;rw[X8]at b2;rw[jz]at b7;rw[Hy]at b16;have HX:=Hh (And.intro Hw (And.intro X8 (And.intro jz Hy)));clear Gn ii Wc Gp Hw X8 jz Hy;go_upto_region 6 with fail
  refine zw 10 (fun wx=>wx.cell? ⟨w.heap.size,a15,none⟩=some (.int .u32 x15)∧wx.cell? ⟨w.heap.size,a2,none⟩=some (.int .u32 x2)) (by kernel_rfl) (⟨b15,b2⟩) (fun zy=>?_)
  refine TkS 0 rfl zy ?_
  refine TkS 1 rfl zy ?_
  refine TkS 2 rfl zy ?_
  refine TkS 3 rfl zy ?_
  refine TkS 4 rfl zy ?_
  refine TkS 5 rfl zy ?_
  refine TkS 6 rfl zy ?_
  refine TkS 7 rfl zy ?_
  refine TkS 8 rfl zy ?_
  refine TkS 9 rfl zy ?_
  refine Wd ?_
  clear zy;go_upto_region 7 with fail
  refine zw 29 (fun wx=>wx.cell? ⟨w.heap.size,a7,none⟩=some (.int .u32 x7)∧wx.cell? ⟨w.heap.size,a16,none⟩=some (.int .u32 x16)) (by kernel_rfl) (⟨b7,b16⟩) (fun zy=>?_)
  refine Tk 0 rfl zy ?_
  refine Tk 1 rfl zy ?_
  refine Tk 3 rfl zy ?_
  refine Tk 6 rfl zy ?_
  refine Tk 7 rfl zy ?_
  refine Tk 9 rfl zy ?_
  refine Tk 10 rfl zy ?_
  refine Tk 11 rfl zy ?_
  refine Tk 12 rfl zy ?_
  refine Tk 14 rfl zy ?_
  refine Tk 16 rfl zy ?_
  refine Tk 19 rfl zy ?_
  refine Tk 20 rfl zy ?_
  refine Tk 23 rfl zy ?_
  refine Tk 24 rfl zy ?_
  refine Tk 25 rfl zy ?_
  refine Tk 26 rfl zy ?_
  refine To 2 rfl fun K hK=>?_
  go_simp
  refine(SF _ _).mono ?_
  rintro e w5 ⟨rfl,rfl⟩
  clear zy
  refine hK.out _ _ (fun _=>?_) (fun zy=>?_)
  ·exact⟨b7,b16⟩
  clear hK K;replace zy:=zy (by decide)
  try simp only[Act.put,zz1,zz2,zz3,zz4,zz5,zz6]
  refine To 4 rfl fun K hK=>?_
  go_simp
  refine(SI _ _).mono ?_
  rintro e w5 ⟨rfl,rfl⟩
  clear zy
  refine hK.out _ _ (fun _=>?_) (fun zy=>?_)
  ·exact⟨b7,b16⟩
  clear hK K;replace zy:=zy (by decide)
  try simp only[Act.put,zz1,zz2,zz3,zz4,zz5,zz6]
  refine Tk 5 rfl zy ?_
  refine Tk 8 rfl zy ?_
  refine Tk 13 rfl zy ?_
  refine To 15 rfl fun K hK=>?_
  go_simp
  refine(Nx _ _).mono ?_
  rintro e w5 ⟨rfl,rfl⟩
  clear zy
  refine hK.out _ _ (fun _=>?_) (fun zy=>?_)
  ·exact⟨b7,b16⟩
  clear hK K;replace zy:=zy (by decide)
  try simp only[Act.put,zz1,zz2,zz3,zz4,zz5,zz6]
  refine To 17 rfl fun K hK=>?_
  go_simp
  refine(SG _ _).mono ?_
  rintro e w5 ⟨rfl,rfl⟩
  clear zy
  refine hK.out _ _ (fun _=>?_) (fun zy=>?_)
  ·exact⟨b7,b16⟩
  clear hK K;replace zy:=zy (by decide)
  try simp only[Act.put,zz1,zz2,zz3,zz4,zz5,zz6]
  refine Tk 18 rfl zy ?_
  refine Tk 21 rfl zy ?_
  refine Tk 22 rfl zy ?_
  refine Tk 27 rfl zy ?_
  refine Tk 28 rfl zy ?_
  refine To 29 rfl fun K hK=>?_
  rw[if_pos (by rfl)]
  refine xt _ _ _ rfl w.heap.size k (.int .u32 (I1 x15 x2 x7 x16)) rfl rfl _ _ MB mK (by rw[oL,tw];omega) rfl fun w9 hW9 xR=>?_
  refine Kz hK ?_
  clear hK K
  refine Wd ?_
  clear zy;have mh:Below w.heap.size w w9:=nD.drew.drew.grown xR nD.size (by rintro q ⟨⟩;exact Nat.le_refl _)
  have hWn:Blk w9 w.heap.size 136 (tZ (xM bs (k+1))):=by
   obtain⟨rfl,rfl,rfl,rfl⟩:=HJ.out;obtain⟨rfl,rfl,rfl,rfl⟩:=HX.out;rw[S5 _ _ (by omega)]at hW9
   exact hW9
  exact jcw
 obtain rfl:k=64:=by omega
 rw[show((64:Nat):Int)=64 from rfl]at yu⊢;have MH:=hh.below nD;have hKr:=hKb.below nD;have d0:wr.cell? ⟨hg,0,none⟩=some (.int .u32 h0.a):=MH.cell 0 rfl;have d1:wr.cell? ⟨hg,1,none⟩=some (.int .u32 h0.b):=MH.cell 1 rfl;have d2:wr.cell? ⟨hg,2,none⟩=some (.int .u32 h0.c):=MH.cell 2 rfl;have d3:wr.cell? ⟨hg,3,none⟩=some (.int .u32 h0.d):=MH.cell 3 rfl;have d4:wr.cell? ⟨hg,4,none⟩=some (.int .u32 h0.e):=MH.cell 4 rfl;have d5:wr.cell? ⟨hg,5,none⟩=some (.int .u32 h0.f):=MH.cell 5 rfl;have d6:wr.cell? ⟨hg,6,none⟩=some (.int .u32 h0.g):=MH.cell 6 rfl;have d7:wr.cell? ⟨hg,7,none⟩=some (.int .u32 h0.h):=MH.cell 7 rfl;have HZ:=Hh nD.size;have HGW:Hid (hg<w.heap.size∧kg<w.heap.size):=⟨hh.lt,hKb.lt⟩
 obtain⟨G,hG⟩:∃ G,wr.heap.size=G:=⟨_,rfl⟩
 have dC:=Hh (Blk.new wr 137 h0.cells);rw[hG]at dC;have hW2:=hW.alloc (.cells h0.cells 137);have zG:=nD.alloc nD.size (.cells h0.cells 137);have HG:=Hh hG;have HGS:Hid (w.heap.size<G):=by have:=hW.lt;rw[Hid];omega
 clear HN yu Gz MH hG;go_wp2_with fail
 rw[HG.out];go_loopw [98] (fun v98 wx=>∃ k:Nat,v98=.int .i64 (k:Int)∧k≤64∧Blk wx G 137 (sG KK (xM bs 64) h0 k).cells∧Blk wx w.heap.size 136 (tZ (xM bs 64))∧Below w.heap.size w wx) (fun v98 _=>(64-intOf v98).toNat)
 case atStart=>exact⟨0,rfl,by omega,dC.out,hW2,zG⟩
 case round =>
 clear hW2 zG dC d0 d1 d2 d3 d4 d5 d6 d7 hW hKr;obtain⟨k,rfl,Gz,hS,An,xO⟩:=hrel
 by_cases yu:(k:Int)<64
 ·obtain⟨s,hs⟩:∃ s,sG KK (xM bs 64) h0 k=s:=⟨_,rfl⟩
  rw[hs]at hS;have ID:=Hh hs;clear hs;have c0:wr.cell? ⟨G,0,none⟩=some (.int .u32 s.a):=hS.cell 0 rfl;have c1:wr.cell? ⟨G,1,none⟩=some (.int .u32 s.b):=hS.cell 1 rfl;have c2:wr.cell? ⟨G,2,none⟩=some (.int .u32 s.c):=hS.cell 2 rfl;have c3:wr.cell? ⟨G,3,none⟩=some (.int .u32 s.d):=hS.cell 3 rfl;have c4:wr.cell? ⟨G,4,none⟩=some (.int .u32 s.e):=hS.cell 4 rfl;have c5:wr.cell? ⟨G,5,none⟩=some (.int .u32 s.f):=hS.cell 5 rfl;have c6:wr.cell? ⟨G,6,none⟩=some (.int .u32 s.g):=hS.cell 6 rfl;have c7:wr.cell? ⟨G,7,none⟩=some (.int .u32 s.h):=hS.cell 7 rfl;have ck:=(hKb.below xO).cell k (rO _ _ (by have:=H64.out;omega));have cw:=An.cell k (rO _ _ (by rw[tw];omega));obtain⟨xk,Fg⟩:∃ x,tW KK k=x:=⟨_,rfl⟩
  obtain⟨xw,UJ⟩:∃ x,tW (xM bs 64) k=x:=⟨_,rfl⟩
  rw[Fg]at ck;rw[UJ]at cw;have HX:=Hh (And.intro Fg UJ);clear Fg UJ;go_upto_region 13 with fail
  refine zw 6 (fun wx=>wx.cell? ⟨G,0,none⟩=some (.int .u32 s.a)∧wx.cell? ⟨G,4,none⟩=some (.int .u32 s.e)) (by kernel_rfl) (⟨c0,c4⟩) (fun zy=>?_)
  refine TkS 0 rfl zy ?_
  refine TkS 1 rfl zy ?_
  refine TkS 2 rfl zy ?_
  refine TkS 3 rfl zy ?_
  refine TkS 4 rfl zy ?_
  refine TkS 5 rfl zy ?_
  refine Wd ?_
  clear zy;go_upto_region 14 with fail
  refine zw 33 (fun wx=>wx.cell? ⟨G,7,none⟩=some (.int .u32 s.h)∧wx.cell? ⟨G,5,none⟩=some (.int .u32 s.f)∧wx.cell? ⟨G,6,none⟩=some (.int .u32 s.g)∧wx.cell? ⟨kg,k,none⟩=some (.int .u32 xk)∧wx.cell? ⟨w.heap.size,k,none⟩=some (.int .u32 xw)) (by kernel_rfl) (⟨c7,c5,c6,ck,cw⟩) (fun zy=>?_)
  refine TkS 0 rfl zy ?_
  refine TkS 1 rfl zy ?_
  refine TkS 2 rfl zy ?_
  refine TkS 4 rfl zy ?_
  refine TkS 7 rfl zy ?_
  refine TkS 11 rfl zy ?_
  refine TkS 12 rfl zy ?_
  refine TkS 13 rfl zy ?_
  refine TkS 14 rfl zy ?_
  refine TkS 15 rfl zy ?_
  refine TkS 16 rfl zy ?_
  refine TkS 17 rfl zy ?_
  refine TkS 18 rfl zy ?_
  refine TkS 19 rfl zy ?_
  refine TkS 20 rfl zy ?_
  refine TkS 22 rfl zy ?_
  refine TkS 23 rfl zy ?_
  refine TkS 24 rfl zy ?_
  refine TkS 25 rfl zy ?_
  refine TkS 26 rfl zy ?_
  refine TkS 28 rfl zy ?_
  refine TkS 29 rfl zy ?_
  refine TkS 30 rfl zy ?_
  refine To 3 rfl fun K hK=>?_
  go_simp
  refine(Nw _ _).mono ?_
  rintro e w5 ⟨rfl,rfl⟩
  clear zy
  refine hK.out _ _ (fun _=>?_) (fun zy=>?_)
  ·exact⟨c7,c5,c6,ck,cw⟩
  clear hK K;replace zy:=zy (by decide)
  try simp only[Act.put,zz1,zz2,zz3,zz4,zz5,zz6]
  refine To 5 rfl fun K hK=>?_
  go_simp
  refine(S7 _ _).mono ?_
  rintro e w5 ⟨rfl,rfl⟩
  clear zy
  refine hK.out _ _ (fun _=>?_) (fun zy=>?_)
  ·exact⟨c7,c5,c6,ck,cw⟩
  clear hK K;replace zy:=zy (by decide)
  try simp only[Act.put,zz1,zz2,zz3,zz4,zz5,zz6]
  refine TkS 6 rfl zy ?_
  refine To 8 rfl fun K hK=>?_
  go_simp
  refine(SK _ _).mono ?_
  rintro e w5 ⟨rfl,rfl⟩
  clear zy
  refine hK.out _ _ (fun _=>?_) (fun zy=>?_)
  ·exact⟨c7,c5,c6,ck,cw⟩
  clear hK K;replace zy:=zy (by decide)
  try simp only[Act.put,zz1,zz2,zz3,zz4,zz5,zz6]
  refine TkS 9 rfl zy ?_
  refine TkS 10 rfl zy ?_
  refine TkS 21 rfl zy ?_
  refine TkS 27 rfl zy ?_
  refine TkS 31 rfl zy ?_
  refine TkS 32 rfl zy ?_
  refine Wd ?_
  clear zy;go_upto_region 15 with fail
  refine zw 25 (fun wx=>wx.cell? ⟨G,1,none⟩=some (.int .u32 s.b)∧wx.cell? ⟨G,2,none⟩=some (.int .u32 s.c)) (by kernel_rfl) (⟨c1,c2⟩) (fun zy=>?_)
  refine TkS 0 rfl zy ?_
  refine TkS 2 rfl zy ?_
  refine TkS 5 rfl zy ?_
  refine TkS 8 rfl zy ?_
  refine TkS 9 rfl zy ?_
  refine TkS 10 rfl zy ?_
  refine TkS 11 rfl zy ?_
  refine TkS 12 rfl zy ?_
  refine TkS 13 rfl zy ?_
  refine TkS 14 rfl zy ?_
  refine TkS 15 rfl zy ?_
  refine TkS 16 rfl zy ?_
  refine TkS 17 rfl zy ?_
  refine TkS 18 rfl zy ?_
  refine TkS 19 rfl zy ?_
  refine TkS 20 rfl zy ?_
  refine TkS 21 rfl zy ?_
  refine TkS 22 rfl zy ?_
  refine To 1 rfl fun K hK=>?_
  go_simp
  refine(Nv _ _).mono ?_
  rintro e w5 ⟨rfl,rfl⟩
  clear zy
  refine hK.out _ _ (fun _=>?_) (fun zy=>?_)
  ·exact⟨c1,c2⟩
  clear hK K;replace zy:=zy (by decide)
  try simp only[Act.put,zz1,zz2,zz3,zz4,zz5,zz6]
  refine To 3 rfl fun K hK=>?_
  go_simp
  refine(S9 _ _).mono ?_
  rintro e w5 ⟨rfl,rfl⟩
  clear zy
  refine hK.out _ _ (fun _=>?_) (fun zy=>?_)
  ·exact⟨c1,c2⟩
  clear hK K;replace zy:=zy (by decide)
  try simp only[Act.put,zz1,zz2,zz3,zz4,zz5,zz6]
  refine TkS 4 rfl zy ?_
  refine To 6 rfl fun K hK=>?_
  go_simp
  refine(SJ _ _).mono ?_
  rintro e w5 ⟨rfl,rfl⟩
  clear zy
  refine hK.out _ _ (fun _=>?_) (fun zy=>?_)
  ·exact⟨c1,c2⟩
  clear hK K;replace zy:=zy (by decide)
  try simp only[Act.put,zz1,zz2,zz3,zz4,zz5,zz6]
  refine TkS 7 rfl zy ?_
  refine TkS 23 rfl zy ?_
  refine TkS 24 rfl zy ?_
  refine Wd ?_
  clear zy;go_wp2_with (with_reducible refine zx ?_)
  refine zv rfl _ _ _ rfl rfl G (Oh s xk xw).cells rfl rfl _ _ hS Kq rfl (S8.one _) fun w9 Dj xR=>?_
  have Z0:Blk w9 G 137 (sG KK (xM bs 64) h0 (k+1)).cells:=by
   rw[sG,ID.out,HX.out.1,HX.out.2]
   exact Dj
  have hGs:w.heap.size<G:=HGS.out;have zAF:=An.drew.drew.drew.grown xR (by intro hc;injection hc;omega);have rl:=xO.drew.drew.drew.grown xR xO.size (by rintro q ⟨⟩;omega);clear Dj xR hS An c0 c1 c2 c3 c4 c5 c6 c7 ck cw xO hGs;go_wp2_with fail
  go_roundw
  case rel=>exact⟨k+1,by go_num,by omega,Z0,zAF,rl⟩
  case measure=>simp[intOf];omega
 obtain rfl:k=64:=by omega
 rw[show((64:Nat):Int)=64 from rfl]at yu⊢;obtain⟨s,hs⟩:∃ s,sG KK (xM bs 64) h0 64=s:=⟨_,rfl⟩
 rw[hs]at hS;have ID:=Hh hs;have Mg:=hh.below xO;have hGs:w.heap.size<G:=HGS.out;have hgh:hg<w.heap.size:=HGW.out.1;clear hs yu Gz hKb An;go_wp2_with fail
 go_loopw [180] (fun v180 wx=>∃ k:Nat,v180=.int .i64 (k:Int)∧k≤8∧Blk wx hg 137 (tZ (Yw h0.list s.list k))∧Blk wx G 137 (tZ s.list)∧w.grownBy wx (some hg)) (fun v180 _=>(8-intOf v180).toNat)
 case atStart=>exact⟨0,rfl,by omega,Mg,hS,wj xO _⟩
 case round =>
 clear Mg hS xO;obtain⟨k,rfl,Mh,Dv,hSx,hgx⟩:=hrel
 by_cases yu:(k:Int)<8
 ·have ch:=Dv.drew.cell k (rO _ _ (by rw[eN];simp[S8.list];omega));have cs:=hSx.drew.cell k (rO _ _ (by simp[S8.list];omega));obtain⟨xh,hxh⟩:∃ x,tW (Yw h0.list s.list k) k=x:=⟨_,rfl⟩
  obtain⟨xs,QD⟩:∃ x,tW s.list k=x:=⟨_,rfl⟩
  rw[hxh]at ch;rw[QD]at cs;have HX:=Hh (And.intro hxh QD);clear hxh QD;go_upto_region 21 with fail
  refine zw 11 (fun wx=>wx.cell? ⟨hg,k,none⟩=some (.int .u32 xh)∧wx.cell? ⟨G,k,none⟩=some (.int .u32 xs)) (by kernel_rfl) (⟨ch,cs⟩) (fun zy=>?_)
  refine Tk 0 rfl zy ?_
  refine Tk 1 rfl zy ?_
  refine Tk 2 rfl zy ?_
  refine Tk 3 rfl zy ?_
  refine Tk 4 rfl zy ?_
  refine Tk 5 rfl zy ?_
  refine Tk 6 rfl zy ?_
  refine Tk 7 rfl zy ?_
  refine Tk 8 rfl zy ?_
  refine Tk 9 rfl zy ?_
  refine Tk 10 rfl zy ?_
  refine To 11 rfl fun K hK=>?_
  rw[if_pos (by rfl)]
  refine xt _ _ _ rfl hg k (.int .u32 (IntKind.u32.wrap (xh+xs))) rfl rfl _ _ Dv.drew mK (by rw[oL,eN];simp[S8.list];omega) rfl fun w9 MG xR=>?_
  refine Kz hK ?_
  clear hK K
  refine Wd ?_
  clear zy
  have zA5:Blk w9 hg 137 (tZ (Yw h0.list s.list (k+1))):=by
   obtain⟨rfl,rfl⟩:=HX.out;rw[mJ]at MG
   exact MG
  have Z0:=hSx.drew.grown xR (by intro hc;injection hc;omega);have xW:=zK (vG hgx) xR (.inl rfl);clear MG xR ch cs Dv hSx hgx;go_wp2_with fail
  go_roundw
  case rel=>exact⟨k+1,by go_num,by omega,zA5,Z0,xW⟩
  case measure=>simp[intOf];omega
 obtain rfl:k=8:=by omega
 rw[show((8:Nat):Int)=8 from rfl]at yu⊢;have hE:tZ (Yw h0.list s.list 8)=(mN KK h0 bs).cells:=by rw[mN,ID.out];rfl
 rw[hE]at Dv;clear hE;go_wp2_with fail
 go_end0
 exact⟨⟨_,rfl⟩,Dv,hgx⟩
def Jo:List Int:=[4794697086780616226,8158064640168781261,13096744586834688815,16840607885511220156,4131703408338449720,6480981068601479193,10538285296894168987,12329834152419229976,15566598209576043074,1334009975649890238,2608012711638119052,6128411473006802146,8268148722764581231,9286055187155687089,11230858885718282805,13951009754708518548,16472876342353939154,17275323862435702243,1135362057144423861,2597628984639134821,3308224258029322869,5365058923640841347,6679025012923562964,8573033837759648693,10970295158949994411,12119686244451234320,12683024718118986047,13788192230050041572,14330467153632333762,15395433587784984357,489312712824947311,1452737877330783856,2861767655752347644,3322285676063803686,5560940570517711597,5996557281743188959,7280758554555802590,8532644243296465576,9350256976987008742,10552545826968843579,11727347734174303076,12113106623233404929,14000437183269869457,14369950271660146224,15101387698204529176,15463397548674623760,17586052441742319658,1182934255886127544,1847814050463011016,2177327727835720531,2830643537854262169,3796741975233480872,4115178125766777443,5681478168544905931,6601373596472566643,7507060721942968483,8399075790359081724,8693463985226723168,9568029438360202098,10144078919501101548,10430055236837252648,11840083180663258601,13761210420658862357,14299343276471374635,14566680578165727644,15097957966210449927,16922976911328602910,17689382322260857208,500013540394364858,748580250866718886,1242879168328830382,1977374033974150939,2944078676154940804,3659926193048069267,4368137639120453308,4836135668995329356,5532061633213252278,6448918945643986474,6902733635092675308,7801388544844847127]
def sx (x:Int):Int:=IntKind.u32.wrap (x/4294967296)
def sE:List Int:=Jo.map sx
def Ok:S8:=⟨sx 7640891576956012808,sx 13503953896175478587,sx 4354685564936845355,sx 11912009170470909681,sx 5840696475078001361,sx 11170449401992604703,sx 2270897969802886507,sx 6620516959819538809⟩
def Sg (m:List UInt8) (k:Nat):List UInt8:=(m.drop (64*k)).take 64
def fA (m:List UInt8):Nat→S8
 | 0=>Ok
 | k+1=>mN sE (fA m k) (Sg m k)
def ez (x:Int) (d:Int):UInt8:=UInt8.ofNat (x/d%256).toNat
def qo (x:Int):List UInt8:=[ez x 16777216,ez x 65536,ez x 256,ez x 1]
def gF (l:List UInt8):List UInt8:=(fA (oB l) ((oB l).length/64)).list.flatMap qo
theorem Ql (x d:Int):zm (ez x d)=.int .u8 (IntKind.u8.wrap (x/d)):=by
 have h:((x/d%256).toNat:Int)=x/d%256:=Int.toNat_of_nonneg (Int.emod_nonneg _ (by decide));have h2:(x/d%256).toNat<256:=by have:=Int.emod_lt_of_pos (x/d) (show(0:Int)<256 by decide);omega
 rw[zm,ez,UInt8.toNat_ofNat',Nat.mod_eq_of_lt h2,h];rfl
theorem oT (l:List UInt8):(gF l).length=32:=rfl
theorem Mx {m:List UInt8}{k:Nat}(h:64*k+64≤m.length):(Sg m k).length=64:=by
 rw[Sg,List.length_take,List.length_drop]
 omega
def kP:Nat→List Int
 | 0=>List.replicate 64 0
 | k+1=>(kP k).set k (tW sE k)
theorem OQ:∀ k,(kP k).length=64
 | 0=>rfl
 | k+1=>by rw[kP,List.length_set,OQ k]
def KK:List Int:=sE.take 64
theorem Fr:KK.length=64:=rfl
theorem Bc:kP 64=KK:=by kernel_rfl
theorem Qa:((List.range 64).all fun i=>decide (sx ((xQ (q9.take 64) i:Nat):Int)=tW sE i))=true:=by kernel_rfl
theorem Mq {i:Nat}(h:i<64):sx ((xQ (q9.take 64) i:Nat):Int)=tW sE i:=by
 have h1:=Qa;rw[List.all_eq_true]at h1
 exact of_decide_eq_true (h1 i (List.mem_range.2 h))
def hP8:Nat→List Int
 | 0=>List.replicate 8 0
 | k+1=>(hP8 k).set k (sx ((xQ ue k:Nat):Int))
theorem Ta:∀ k,(hP8 k).length=8
 | 0=>rfl
 | k+1=>by rw[hP8,List.length_set,Ta k]
theorem BK:hP8 8=Ok.list:=by kernel_rfl
theorem Fq {i:Nat}(h:i<64):tW KK i=tW sE i:=by
 unfold tW KK
 rw[List.getD_eq_getElem?_getD,List.getD_eq_getElem?_getD,List.getElem?_take,if_pos h]
theorem ko {K K' W:List Int}{h:S8}:∀ n,(∀ i,i<n→tW K i=tW K' i)→sG K W h n=sG K' W h n
 | 0,_=>rfl
 | n+1,hn=>by rw[sG,sG,ko n (fun i hi=>hn i (by omega)),hn n (by omega)]
theorem Qj (h:S8) (bs:List UInt8):mN KK h bs=mN sE h bs:=by
 unfold mN
 rw[ko 64 (fun i hi=>Fq hi)]
theorem Uo (m:List UInt8) (k:Nat):fA m (k+1)=mN sE (fA m k) (Sg m k):=rfl
def Z8 (s:S8) (i:Nat):List UInt8:=(s.list.take i).flatMap qo
theorem GC (s:S8):Z8 s 8=s.list.flatMap qo:=by rw[Z8,List.take_of_length_le (by rw[S8.list];simp)]
theorem sq (x:Int):(qo x).length=4:=rfl
theorem Nc (s:S8) (i:Nat) (h:i≤8):(Z8 s i).length=4*i:=by
 obtain rfl | rfl | rfl | rfl | rfl | rfl | rfl | rfl | rfl:i=0∨i=1∨i=2∨i=3∨i=4∨i=5∨i=6∨i=7∨i=8:=by omega
 all_goals rfl
theorem Rf (s:S8) (i:Nat) (h:i<8):Z8 s i++qo (tW s.list i)=Z8 s (i+1):=by
 have hl:i<s.list.length:=by rw[S8.list];exact h
 rw[Z8,Z8,List.take_succ_eq_append_getElem hl,List.flatMap_append,List.flatMap_singleton]
 unfold tW
 rw[List.getD_eq_getElem?_getD,List.getElem?_eq_getElem hl];rfl
theorem lP (x d:Int):zm (ez x d)=.int .u8 (x/d%256):=by
 rw[Ql,IntKind.wrap_u8]
theorem ug (x:Int):(qo x).map zm=[.int .u8 (x/16777216%256),.int .u8 (x/65536%256),.int .u8 (x/256%256),.int .u8 (x%256)]:=by
 simp only[qo,List.map_cons,List.map_nil]
 rw[lP,lP,lP,lP,Int.ediv_one]
end Go.Proofs.YtliomcphdnppnaaGreatDoor
namespace Go.Proofs.YtliomcphdnppnaaGreatDoor
theorem Zx:∀ (k:Nat) (x y:List Nat),W64 x→W64 y→k<x.length→k<y.length→x.drop (k+1)=y.drop (k+1)→xQ x k≠xQ y k→(num x<num y↔xQ x k<xQ y k)
 | _,[],_,_,_,h,_,_,_=>by simp at h
 | _,_::_,[],_,_,_,h,_,_=>by simp at h
 | 0,a::x,b::y,hx,hy,_,_,hd,vl=>by
  have e:x=y:=by simpa using hd
  have h1:a<18446744073709551616:=hx a (by simp);have h2:b<18446744073709551616:=hy b (by simp);subst e;have e1:num (a::x)=a+18446744073709551616*num x:=rfl;have e2:num (b::x)=b+18446744073709551616*num x:=rfl;have e3:xQ (a::x) 0=a:=rfl;have e4:xQ (b::x) 0=b:=rfl;rw[e1,e2,e3,e4]
  omega
 | k+1,a::x,b::y,hx,hy,Ar,UE,hd,vl=>by
  have g1:xQ (a::x) (k+1)=xQ x k:=rfl;have g2:xQ (b::y) (k+1)=xQ y k:=rfl;rw[g1,g2]at vl⊢;have QX:W64 x:=fun c hc=>hx c (by simp[hc])
  have Ml:W64 y:=fun c hc=>hy c (by simp[hc])
  have i1:=Zx k x y QX Ml (by simpa using Ar) (by simpa using UE) (by simpa using hd) vl;have i2:=Zx k y x Ml QX (by simpa using UE) (by simpa using Ar) (by simpa using hd.symm) (Ne.symm vl);have h1:a<18446744073709551616:=hx a (by simp);have h2:b<18446744073709551616:=hy b (by simp);have e1:num (a::x)=a+18446744073709551616*num x:=rfl;have e2:num (b::y)=b+18446744073709551616*num y:=rfl;rw[e1,e2]
  omega
theorem Rp {a k n B:Nat}(h:k≤n) (hn:a ^ n<B) (hk:0<k):a ^ k<B:=by
 rcases Nat.eq_zero_or_pos a with h0 | h0
 ·subst h0;rw[Nat.zero_pow (show 0<n by omega)]at hn;rw[Nat.zero_pow hk]
  exact hn
 exact Nat.lt_of_le_of_lt (Nat.pow_le_pow_right h0 h) hn
theorem pC {α:Type}{l:List α}(h:l.length=4):∃ a b c d,l=[a,b,c,d]:=by
 match l,h with
 | [a,b,c,d],_=>exact⟨a,b,c,d,rfl⟩
end Go.Proofs.YtliomcphdnppnaaGreatDoor
namespace Go.Proofs.YtliomcphdnppnaaGreatDoor
theorem Yf {p n N:Nat}(hn:n=2∨n=3) (hp:p<1000) (h:N ^ n≤p*18446744073709551616 ^ n):N<32*18446744073709551616:=by
 apply Nat.lt_of_not_le
 intro hN
 have h1:=Nat.pow_le_pow_left hN n;have h2:(32*18446744073709551616) ^ n=32 ^ n*18446744073709551616 ^ n:=Nat.mul_pow _ _ _
 have h3:p*18446744073709551616 ^ n<32 ^ n*18446744073709551616 ^ n:=by
  apply Nat.mul_lt_mul_of_pos_right
  ·rcases hn with rfl | rfl <;> omega
  exact Nat.pow_pos (by decide)
 omega
theorem qO {n N:Nat}(hn:n=2∨n=3) (h:N≤34*18446744073709551616):N ^ n<18446744073709551616 ^ 4:=by
 have h1:=Nat.pow_le_pow_left h n;have h2:(34*18446744073709551616) ^ n<18446744073709551616 ^ 4:=by rcases hn with rfl | rfl <;> decide
 omega
theorem Yg {p n N:Nat}(hp:1≤p) (h:p*18446744073709551616 ^ n<N ^ n):18446744073709551616<N:=by
 apply Nat.lt_of_not_le
 intro hN
 have h1:=Nat.pow_le_pow_left hN n;have h2:1*18446744073709551616 ^ n≤p*18446744073709551616 ^ n:=Nat.mul_le_mul_right _ hp
 omega
theorem TZ {n p c N:Nat}(hn:n=2∨n=3) (hc:c<18446744073709551616) (hf:mP n p c=true) (h1:N ^ n≤p*18446744073709551616 ^ n) (h2:p*18446744073709551616 ^ n<(N+1) ^ n):N%18446744073709551616=c:=by
 unfold mP at hf
 rw[List.any_eq_true]at hf;obtain⟨w,_,hw⟩:=hf
 simp only[Bool.and_eq_true,decide_eq_true_eq]at hw
 have e:=Xe (by omega) h1 h2 hw.1 hw.2;rw[e]
 omega
end Go.Proofs.YtliomcphdnppnaaGreatDoor
namespace Go.Proofs.YtliomcphdnppnaaGreatDoor
def gg (l:List Nat) (p:Nat):List Nat:=if l.all (fun q=>p%q != 0) then l++[p] else l
def sJ:Nat→List Nat
 | 0=>[]
 | k+1=>gg (sJ k) (k+2)
theorem SS (l:List Nat) (p:Nat):l.length≤(gg l p).length∧(gg l p).length≤l.length+1:=by
 unfold gg
 split <;> simp
theorem kO (a:Nat):∀ d,(sJ a).length≤(sJ (a+d)).length
 | 0=>Nat.le_refl _
 | d+1=>Nat.le_trans (kO a d) (SS _ _).1
theorem Sd:(sJ 309).length=63:=by kernel_rfl
theorem bY:sJ 310=uZ.take 64:=by kernel_rfl
theorem O8 {k:Nat}(h:(sJ k).length<64):k≤309:=by
 apply Nat.le_of_not_lt
 intro hk
 have h1:=kO 310 (k-310);rw[show 310+(k-310)=k by omega,bY]at h1;have h2:(uZ.take 64).length=64:=rfl
 omega
theorem Vl {k:Nat}(h1:k≤310) (h2:¬ (sJ k).length<64):sJ k=uZ.take 64:=by
 have h3:k=310:=by
  rcases Nat.lt_or_ge k 310 with h | h
  ·have h4:=kO k (309-k);rw[show k+(309-k)=309 by omega,Sd]at h4
   omega
  omega
 rw[h3,bY]
theorem bZ:∀ k,∀ q∈sJ k,2≤q∧q≤k+1
 | 0,q,h=>by simp[sJ]at h
 | k+1,q,h=>by
  have ih:=bZ k q;rw[sJ,gg]at h
  split at h
  ·rw[List.mem_append]at h
   rcases h with h | h
   ·have:=ih h;omega
   simp at h;omega
  have:=ih h;omega
theorem cF {α:Type}(f:α→Bool) (l:List α) (j:Nat) (hj:j<l.length):(l.take (j+1)).all f=((l.take j).all f&&f l[j]):=by
 rw[List.take_succ_eq_append_getElem hj,List.all_append]
 simp
theorem SW {l:List Nat}{p:Nat}(h:l.all (fun q=>p%q != 0)=true):gg l p=l++[p]:=if_pos h
theorem O6 {l:List Nat}{p:Nat}(h:l.all (fun q=>p%q != 0)=false):gg l p=l:=if_neg (by rw[h];decide)
end Go.Proofs.YtliomcphdnppnaaGreatDoor
namespace Go.Proofs.YtliomcphdnppnaaGreatDoor
open Go.RowKit
theorem kH (x:Nat) (hx:x<18446744073709551616):bits .and .u64 (x:Int) 4294967295=((x%4294967296:Nat):Int):=by
 have h1:(BitVec.ofInt 64 (x:Int)).toNat=x:=by
  exact jbL
 have h2:(BitVec.ofInt 64 (4294967295:Int)).toNat=4294967295:=by decide
 show IntKind.u64.wrap ((BitVec.ofInt 64 (x:Int) &&& BitVec.ofInt 64 4294967295).toNat:Int)=_
 have h3:x &&& 4294967295=x%4294967296:=by
  have:=Nat.and_two_pow_sub_one_eq_mod x 32
  simpa using this
 rw[BitVec.toNat_and,h1,h2,h3,IntKind.wrap_u64]
 omega
theorem wu (n:Nat) (h:n<18446744073709551616):IntKind.u64.wrap (n:Int)=(n:Int):=IntWalk.u64_in _ (by omega)
theorem UN (x y:Nat) (hx:x<18446744073709551616) (hy:y<18446744073709551616) (w:World) :
  Calls Tryz.prog 211 #[.int .u64 (x:Int),.int .u64 (y:Int)] w fun e w' =>
   e=.returned (.tuple #[.int .u64 ((x*y/18446744073709551616:Nat):Int),.int .u64 ((x*y%18446744073709551616:Nat):Int)])∧w=w':=by
 obtain⟨l1,l2,l3,l4⟩:=Lib.mul64_hi x y hx hy;have A1:bits .and .u64 (x:Int) 4294967295=((x%4294967296:Nat):Int):=kH x hx;have A2:bits .and .u64 (y:Int) 4294967295=((y%4294967296:Nat):Int):=kH y hy;have D1:(x:Int)/4294967296=((x/4294967296:Nat):Int):=by omega
 have D2:(y:Int)/4294967296=((y/4294967296:Nat):Int):=by omega
 have Mi:IntKind.u64.wrap ((x:Int)*(y:Int))=((x*y%18446744073709551616:Nat):Int):=by rw[IntKind.wrap_u64,← Int.natCast_mul];omega
 have qu:=Lib.half_mul_le (a:=x/4294967296) (b:=y%4294967296) (by omega) (by omega);have ir:=Lib.half_mul_le (a:=x%4294967296) (b:=y/4294967296) (by omega) (by omega);have FZ:=Lib.half_mul_le (a:=x/4294967296) (b:=y/4294967296) (by omega) (by omega);obtain⟨lo,He⟩:∃ n,x*y%18446744073709551616=n:=⟨_,rfl⟩
 obtain⟨hi,LW⟩:∃ n,x*y/18446744073709551616=n:=⟨_,rfl⟩
 have Ao:hi<18446744073709551616:=by
  rw[← LW];have:=Nat.mul_le_mul (show x≤18446744073709551615 by omega) (show y≤18446744073709551615 by omega)
  omega
 rw[He]at Mi;rw[He,LW];rw[LW]at l4;obtain⟨x0,JZ⟩:∃ n,x%4294967296=n:=⟨_,rfl⟩
 obtain⟨x1,lC⟩:∃ n,x/4294967296=n:=⟨_,rfl⟩
 obtain⟨y0,Fi⟩:∃ n,y%4294967296=n:=⟨_,rfl⟩
 obtain⟨y1,hy1⟩:∃ n,y/4294967296=n:=⟨_,rfl⟩
 rw[JZ]at A1 l1 l2 l3 l4 ir;rw[lC]at D1 l2 l3 l4 qu FZ;rw[Fi]at A2 l1 l2 l3 l4 qu;rw[hy1]at D2 l3 l4 ir FZ;obtain⟨w0,B9⟩:∃ n,x0*y0=n:=⟨_,rfl⟩
 obtain⟨p1,dI⟩:∃ n,x1*y0=n:=⟨_,rfl⟩
 obtain⟨p2,lB⟩:∃ n,x0*y1=n:=⟨_,rfl⟩
 obtain⟨p3,MO⟩:∃ n,x1*y1=n:=⟨_,rfl⟩
 rw[B9]at l1 l2 l3 l4;rw[dI]at l2 l3 l4 qu;rw[lB]at l3 l4 ir;rw[MO]at l4 FZ;have M0:IntKind.u64.wrap ((x0:Int)*(y0:Int))=(w0:Int):=by rw[← Int.natCast_mul,B9];exact wu _ l1
 have M1:IntKind.u64.wrap ((x1:Int)*(y0:Int))=(p1:Int):=by rw[← Int.natCast_mul,dI];exact wu _ (by omega)
 have M2:IntKind.u64.wrap ((x0:Int)*(y1:Int))=(p2:Int):=by rw[← Int.natCast_mul,lB];exact wu _ (by omega)
 have M3:IntKind.u64.wrap ((x1:Int)*(y1:Int))=(p3:Int):=by rw[← Int.natCast_mul,MO];exact wu _ (by omega)
 clear JZ lC Fi hy1 B9 dI lB MO qu ir He LW;obtain⟨q0,oG⟩:∃ n,w0/4294967296=n:=⟨_,rfl⟩
 have D3:(w0:Int)/4294967296=(q0:Int):=by omega
 rw[oG]at l2 l3 l4;obtain⟨t,ht⟩:∃ n,p1+q0=n:=⟨_,rfl⟩
 rw[ht]at l2 l3 l4;have S1:IntKind.u64.wrap ((p1:Int)+(q0:Int))=(t:Int):=by rw[← Int.natCast_add,ht];exact wu _ l2
 have A3:=kH t l2;obtain⟨w1,sW⟩:∃ n,t%4294967296=n:=⟨_,rfl⟩
 obtain⟨w2,pj⟩:∃ n,t/4294967296=n:=⟨_,rfl⟩
 have D4:(t:Int)/4294967296=(w2:Int):=by omega
 rw[sW]at A3 l3 l4;rw[pj]at l4;obtain⟨v,hv⟩:∃ n,w1+p2=n:=⟨_,rfl⟩
 rw[hv]at l3 l4;have S2:IntKind.u64.wrap ((w1:Int)+(p2:Int))=(v:Int):=by rw[← Int.natCast_add,hv];exact wu _ l3
 obtain⟨q1,jy⟩:∃ n,v/4294967296=n:=⟨_,rfl⟩
 have D5:(v:Int)/4294967296=(q1:Int):=by omega
 rw[jy]at l4;obtain⟨p4,ae⟩:∃ n,p3+w2=n:=⟨_,rfl⟩
 rw[ae]at l4;have S3:IntKind.u64.wrap ((p3:Int)+(w2:Int))=(p4:Int):=by rw[← Int.natCast_add,ae];exact wu _ (by omega)
 have S4:IntKind.u64.wrap ((p4:Int)+(q1:Int))=(hi:Int):=by rw[← Int.natCast_add,l4];exact wu _ Ao
 clear oG ht sW pj hv jy ae l1 l2 l3 l4 FZ Ao hx hy;go_enter Tryz.func211,Tryz.ntmps211
 go_wp2_with fail
 go_ret2
 exact jbb
open Extern.MathBitsCarry in
theorem Rx (x y c:Nat) (hc:c≤1) (w:World):(callFunc 199 #[.int .u64 (x:Int),.int .u64 (y:Int),.int .u64 (c:Int)]).run Tryz.prog w =
  .ok (.value (.tuple #[.int .u64 (((x+y+c)%18446744073709551616:Nat):Int),.int .u64 (((x+y+c)/18446744073709551616:Nat):Int)])) w:=by
 rw[run_callFunc_extern Tryz.func199 (by kernel_rfl) (by kernel_rfl) (by kernel_rfl) (e:=fun args=>do
  let (x, y, c) ← three "Add64" args
  pure (pair ((x+y+c)%m64) ((x+y+c)/m64))) (by kernel_rfl)]
 rcases(show c=0∨c=1 by omega) with rfl | rfl
 ·rfl
 rfl
open Extern.MathBitsCarry in
theorem bW (x y c:Nat) (hc:c≤1) (w:World):(callFunc 198 #[.int .u64 (x:Int),.int .u64 (y:Int),.int .u64 (c:Int)]).run Tryz.prog w =
  .ok (.value (.tuple #[.int .u64 (((x+18446744073709551616-y-c)%18446744073709551616:Nat):Int),.int .u64 ((if x<y+c then 1 else 0:Nat):Int)])) w:=by
 rw[run_callFunc_extern Tryz.func198 (by kernel_rfl) (by kernel_rfl) (by kernel_rfl) (e:=fun args=>do
  let (x, y, b) ← three "Sub64" args
  pure (pair ((x+m64-y-b)%m64) (if x<y+b then 1 else 0))) (by kernel_rfl)]
 rcases(show c=0∨c=1 by omega) with rfl | rfl
 ·rfl
 rfl
end Go.Proofs.YtliomcphdnppnaaGreatDoor
