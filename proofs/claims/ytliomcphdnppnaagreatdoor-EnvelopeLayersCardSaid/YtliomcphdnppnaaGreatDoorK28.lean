/- squeezed. SHA-256: what a block does to the  -/
import Derived.Test.YtliomcphdnppnaaGreatDoorK27
import Derived.Deep.Cut
import Derived.Great.BuildSlice
import Derived.Lib.Mul64
import Derived.Laws.Bits64
import Derived.Laws.Externs
set_option linter.unusedVariables false
set_option linter.unusedSimpArgs false
set_option maxRecDepth 100000
set_option maxHeartbeats 3200000
namespace Go.Proofs.YtliomcphdnppnaaGreatDoor
open Go.RowKit
def uz (l:List Int):Array Value:=(l.map (Value.int .u32)).toArray
def uy (l:List Int) (i:Nat):Int:=l.getD i 0
theorem qw (l:List Int):(uz l).size=l.length:=by simp[uz]
theorem tQ (l:List Int) (i:Nat) (h:i<l.length):(uz l)[i]? = some (.int .u32 (uy l i)):=by
 simp[uz,uy,h]
theorem pW (l:List Int) (i:Nat) (v:Int):(uz l).setIfInBounds i (.int .u32 v)=uz (l.set i v):=by
 simp[uz,List.map_set]
def tp (bs:List UInt8) (i:Nat):Int:=((bs.getD i 0).toNat:Int)
def Vm (b0 b1 b2 b3:Int):Int:=bits .or .u32 (bits .or .u32 (bits .or .u32 (IntKind.u32.wrap (IntKind.u32.wrap b0*16777216)) (IntKind.u32.wrap (IntKind.u32.wrap b1*65536))) (IntKind.u32.wrap (IntKind.u32.wrap b2*256))) (IntKind.u32.wrap b3)
def QB (x y w7 w16:Int):Int :=
 IntKind.u32.wrap (IntKind.u32.wrap (IntKind.u32.wrap (bits .xor .u32 (bits .xor .u32 (uJ 32768 131072 y) (uJ 8192 524288 y)) (y/1024)+w7)+bits .xor .u32 (bits .xor .u32 (uJ 33554432 128 x) (uJ 16384 262144 x)) (x/8))+w16)
structure S8 where
 a:Int
 b:Int
 c:Int
 d:Int
 e:Int
 f:Int
 g:Int
 h:Int
def S8.cells (s:S8):Array Value:=#[.int .u32 s.a,.int .u32 s.b,.int .u32 s.c,.int .u32 s.d,.int .u32 s.e,.int .u32 s.f,.int .u32 s.g,.int .u32 s.h]
def S8.list (s:S8):List Int:=[s.a,s.b,s.c,s.d,s.e,s.f,s.g,s.h]
theorem S8.cells_eq (s:S8):s.cells=uz s.list:=rfl
theorem S8.one (s:S8):s.cells.all (·.oneCell')=true:=by simp[S8.cells,Value.oneCell']
def tP (s:S8) (k w:Int):Int :=
 s.h+bits .xor .u32 (bits .xor .u32 (uJ 67108864 64 s.e) (uJ 2097152 2048 s.e)) (uJ 128 33554432 s.e)+bits .xor .u32 (bits .and .u32 s.e s.f) (bits .and .u32 (bits .xor .u32 IntKind.u32.max s.e) s.g)+k+w
def uP (s:S8):Int :=
 bits .xor .u32 (bits .xor .u32 (uJ 1073741824 4 s.a) (uJ 524288 8192 s.a)) (uJ 1024 4194304 s.a)+bits .xor .u32 (bits .xor .u32 (bits .and .u32 s.a s.b) (bits .and .u32 s.a s.c)) (bits .and .u32 s.b s.c)
def VZ (s:S8) (k w:Int):S8:=⟨(tP s k w+uP s)%4294967296,s.a,s.b,s.c,(s.d+tP s k w)%4294967296,s.e,s.f,s.g⟩
def uB (K W:List Int) (h:S8):Nat→S8
 | 0=>h
 | k+1=>VZ (uB K W h k) (uy K k) (uy W k)
def yE (bs:List UInt8):Nat→List Int
 | 0=>List.replicate 64 0
 | k+1=>(yE bs k).set k (if k<16 then Vm (tp bs (4*k)) (tp bs (4*k+1)) (tp bs (4*k+2)) (tp bs (4*k+3))
   else QB (uy (yE bs k) (k-15)) (uy (yE bs k) (k-2)) (uy (yE bs k) (k-7)) (uy (yE bs k) (k-16)))
theorem vQ (bs:List UInt8):∀ k,(yE bs k).length=64
 | 0=>by simp[yE]
 | k+1=>by simp[yE,vQ bs k]
theorem YG (bs:List UInt8) (k:Nat) (h:k<16):(uz (yE bs k)).setIfInBounds k (.int .u32 (Vm (tp bs (4*k)) (tp bs (4*k+1)) (tp bs (4*k+2)) (tp bs (4*k+3))))=uz (yE bs (k+1)):=by
 rw[pW,yE,if_pos h]
theorem YF (bs:List UInt8) (k:Nat) (h:16≤k):(uz (yE bs k)).setIfInBounds k (.int .u32 (QB (uy (yE bs k) (k-15)) (uy (yE bs k) (k-2)) (uy (yE bs k) (k-7)) (uy (yE bs k) (k-16))))=uz (yE bs (k+1)):=by
 rw[pW,yE,if_neg (by omega)]
def eX (h s:List Int):Nat→List Int
 | 0=>h
 | k+1=>(eX h s k).set k (IntKind.u32.wrap (uy (eX h s k) k+uy s k))
theorem jl (h s:List Int):∀ k,(eX h s k).length=h.length
 | 0=>rfl
 | k+1=>by simp[eX,jl h s k]
def pY (K:List Int) (h:S8) (bs:List UInt8):S8 :=
 let s:=uB K (yE bs 64) h 64
 ⟨IntKind.u32.wrap (h.a+s.a),IntKind.u32.wrap (h.b+s.b),IntKind.u32.wrap (h.c+s.c),IntKind.u32.wrap (h.d+s.d),IntKind.u32.wrap (h.e+s.e),IntKind.u32.wrap (h.f+s.f),IntKind.u32.wrap (h.g+s.g),IntKind.u32.wrap (h.h+s.h)⟩
theorem Sg:(Tryz.prog.info? 137).map (·.size)=some 8:=by kernel_rfl
theorem pX:(Tryz.prog.info? 135).map (·.size)=some 1:=by kernel_rfl
theorem qS {H:Snap}{b off c:Nat}{bs:List UInt8}(hb:IsBytes H (some ⟨b,off,none⟩) c bs) (i:Nat) (hi:i<bs.length):H.cell? ⟨b,off+i,none⟩=some (.int .u8 (tp bs i)):=by
 obtain⟨b',off',e,h⟩:=hb.at_ (by omega)
 cases e
 rw[h i hi]
 simp[tp,hi]
theorem dN {H:Snap}{b off c:Nat}{bs:List UInt8}(hb:IsBytes H (some ⟨b,off,none⟩) c bs) (hl:bs.length=64) {hg kg:Nat}{h0:S8}{KK:List Int}(w:World) (hH:Holds w H)
  (hh:Blk w hg 137 h0.cells) (hKb:Blk w kg 136 (uz KK)) (hK64:KK.length=64) :
  Calls Tryz.prog 103 #[.pointer (some ⟨hg,0,none⟩),.pointer (some ⟨kg,0,none⟩),.slice (some ⟨b,off,none⟩) 64 c] w fun e w'=>(∃ v,e=.returned v)∧Blk w' hg 137 (pY KK h0 bs).cells∧w.grownBy w' (some hg):=by
 have HN:=Hh (Blk.new w 136 (uz (yE bs 0)));have HB:=Hh hb;have HL:=Hh hl;have HH:=Hh hH;have CG:=Hh hK64;clear hb hl hH hK64;go_enter Tryz.func103,Tryz.ntmps103
 go_wp2_with fail
 go_loopw [17] (fun v17 wr=>∃ k:Nat,v17=.int .i64 (k:Int)∧k≤64∧Blk wr w.heap.size 136 (uz (yE bs k))∧Below w.heap.size w wr) (fun v17 _=>(64-intOf v17).toNat)
 case atStart=>exact⟨0,rfl,by omega,HN.out,zu _ _⟩
 case round =>
 obtain⟨k,rfl,Pq,hW,qC⟩:=hrel
 by_cases zB:(k:Int)<64
 ·by_cases RE:(k:Int)<16
  ·obtain⟨j0,OK⟩:∃ j,4*k=j:=⟨_,rfl⟩
   obtain⟨j1,Wp⟩:∃ j,4*k+1=j:=⟨_,rfl⟩
   obtain⟨j2,OL⟩:∃ j,4*k+2=j:=⟨_,rfl⟩
   obtain⟨j3,JY⟩:∃ j,4*k+3=j:=⟨_,rfl⟩
   have W0:IntKind.i64.wrap (4*(k:Int))=(j0:Int):=by rw[← OK];exact IntWalk.i64_in _ (by omega)
   have W1:IntKind.i64.wrap ((j0:Int)+1)=(j1:Int):=by rw[← Wp,← OK];exact IntWalk.i64_in _ (by omega)
   have W2:IntKind.i64.wrap ((j0:Int)+2)=(j2:Int):=by rw[← OL,← OK];exact IntWalk.i64_in _ (by omega)
   have W3:IntKind.i64.wrap ((j0:Int)+3)=(j3:Int):=by rw[← JY,← OK];exact IntWalk.i64_in _ (by omega)
   have l0:(j0:Int)<64:=by omega
   have l1:(j1:Int)<64:=by omega
   have l2:(j2:Int)<64:=by omega
   have l3:(j3:Int)<64:=by omega
   have b0:=qS HB.out j0 (by have:=HL.out;omega);have b1:=qS HB.out j1 (by have:=HL.out;omega);have b2:=qS HB.out j2 (by have:=HL.out;omega);have b3:=qS HB.out j3 (by have:=HL.out;omega);have HJ:=Hh (And.intro OK (And.intro Wp (And.intro OL JY)));clear OK Wp OL JY;have K7:=Hh (HH.out.below qC (Nat.le_refl _));have Th:=hW.drew;go_upto_region 5 with fail
   refine zw 35 (fun wx=>wx.cell? ⟨b,off+j0,none⟩=some (.int .u8 (tp bs j0))∧wx.cell? ⟨b,off+j1,none⟩=some (.int .u8 (tp bs j1))∧wx.cell? ⟨b,off+j2,none⟩=some (.int .u8 (tp bs j2))∧wx.cell? ⟨b,off+j3,none⟩=some (.int .u8 (tp bs j3))) (by kernel_rfl) (⟨K7.out.drew.cell b0,K7.out.drew.cell b1,K7.out.drew.cell b2,K7.out.drew.cell b3⟩) (fun zy=>?_)
   refine Tk 0 rfl zy ?_
   refine Tk 1 rfl zy ?_
   refine Tk 2 rfl zy ?_
   refine Tk 3 rfl zy ?_
   refine Tk 4 rfl zy ?_
   refine Tk 5 rfl zy ?_
   refine Tk 6 rfl zy ?_
   refine Tk 7 rfl zy ?_
   refine Tk 8 rfl zy ?_
   refine Tk 9 rfl zy ?_
   refine Tk 10 rfl zy ?_
   refine Tk 11 rfl zy ?_
   refine Tk 12 rfl zy ?_
   refine Tk 13 rfl zy ?_
   refine Tk 14 rfl zy ?_
   refine Tk 15 rfl zy ?_
   refine Tk 16 rfl zy ?_
   refine Tk 17 rfl zy ?_
   refine Tk 18 rfl zy ?_
   refine Tk 19 rfl zy ?_
   refine Tk 20 rfl zy ?_
   refine Tk 21 rfl zy ?_
   refine Tk 22 rfl zy ?_
   refine Tk 23 rfl zy ?_
   refine Tk 24 rfl zy ?_
   refine Tk 25 rfl zy ?_
   refine Tk 26 rfl zy ?_
   refine Tk 27 rfl zy ?_
   refine Tk 28 rfl zy ?_
   refine Tk 29 rfl zy ?_
   refine Tk 30 rfl zy ?_
   refine Tk 31 rfl zy ?_
   refine Tk 32 rfl zy ?_
   refine Tk 33 rfl zy ?_
   refine Tk 34 rfl zy ?_
   refine To 35 rfl fun K hK=>?_
   rw[if_pos (by rfl)]
   refine yY _ _ _ rfl w.heap.size k (.int .u32 (Vm (tp bs j0) (tp bs j1) (tp bs j2) (tp bs j3))) rfl rfl _ _ Th pX (by rw[qw,vQ];omega) rfl fun w9 hW9 yL=>?_
   refine Kz hK ?_
   clear hK K
   refine Wd ?_
   clear zy;have Ty:Below w.heap.size w w9:=qC.drew.grown yL qC.size (by rintro q ⟨⟩;exact Nat.le_refl _)
   have JK:Blk w9 w.heap.size 136 (uz (yE bs (k+1))):=by
    obtain⟨rfl,rfl,rfl,rfl⟩:=HJ.out;rw[YG _ _ (by omega)]at hW9
    exact hW9
   clear hW9 yL Th;go_wp2_with fail
   go_roundw
   case rel=>exact⟨k+1,by go_num,by omega,JK,Ty⟩
   case measure=>simp[intOf];omega
  have Yg:16≤k:=by omega
  obtain⟨a15,Pj⟩:∃ j,k-15=j:=⟨_,rfl⟩
  obtain⟨a2,l9⟩:∃ j,k-2=j:=⟨_,rfl⟩
  obtain⟨a7,cB⟩:∃ j,k-7=j:=⟨_,rfl⟩
  obtain⟨a16,Pk⟩:∃ j,k-16=j:=⟨_,rfl⟩
  have W15:IntKind.i64.wrap ((k:Int)-15)=(a15:Int):=by rw[← Pj,show((k-15:Nat):Int)=(k:Int)-15 by omega];exact IntWalk.i64_in _ (by omega)
  have W2:IntKind.i64.wrap ((k:Int)-2)=(a2:Int):=by rw[← l9,show((k-2:Nat):Int)=(k:Int)-2 by omega];exact IntWalk.i64_in _ (by omega)
  have W7:IntKind.i64.wrap ((k:Int)-7)=(a7:Int):=by rw[← cB,show((k-7:Nat):Int)=(k:Int)-7 by omega];exact IntWalk.i64_in _ (by omega)
  have W16:IntKind.i64.wrap ((k:Int)-16)=(a16:Int):=by rw[← Pk,show((k-16:Nat):Int)=(k:Int)-16 by omega];exact IntWalk.i64_in _ (by omega)
  have l15:(a15:Int)<64:=by omega
  have l2:(a2:Int)<64:=by omega
  have l7:(a7:Int)<64:=by omega
  have l16:(a16:Int)<64:=by omega
  have Th:=hW.drew;have b15:=Th.cell a15 (tQ _ _ (by rw[vQ];omega));have b2:=Th.cell a2 (tQ _ _ (by rw[vQ];omega));have b7:=Th.cell a7 (tQ _ _ (by rw[vQ];omega));have b16:=Th.cell a16 (tQ _ _ (by rw[vQ];omega));have HJ:=Hh (And.intro Pj (And.intro l9 (And.intro cB Pk)));obtain⟨x15,Q6⟩:∃ x,uy (yE bs k) a15=x:=⟨_,rfl⟩
  obtain⟨x2,cJ⟩:∃ x,uy (yE bs k) a2=x:=⟨_,rfl⟩
  obtain⟨x7,o0⟩:∃ x,uy (yE bs k) a7=x:=⟨_,rfl⟩
  obtain⟨x16,Q7⟩:∃ x,uy (yE bs k) a16=x:=⟨_,rfl⟩
  rw[Q6]at b15;rw[cJ]at b2;rw[o0]at b7;rw[Q7]at b16;have HX:=Hh (And.intro Q6 (And.intro cJ (And.intro o0 Q7)));clear Pj l9 cB Pk Q6 cJ o0 Q7;go_upto_region 6 with fail
  refine zw 10 (fun wx=>wx.cell? ⟨w.heap.size,a15,none⟩=some (.int .u32 x15)∧wx.cell? ⟨w.heap.size,a2,none⟩=some (.int .u32 x2)) (by kernel_rfl) (⟨b15,b2⟩) (fun zy=>?_)
  refine TkS 0 rfl zy ?_
  refine TkS 1 rfl zy ?_
  refine TkS 2 rfl zy ?_
  refine TkS 3 rfl zy ?_
  refine TkS 4 rfl zy ?_
  refine TkS 5 rfl zy ?_
  refine TkS 6 rfl zy ?_
  refine TkS 7 rfl zy ?_
  refine TkS 8 rfl zy ?_
  refine TkS 9 rfl zy ?_
  refine Wd ?_
  clear zy;go_upto_region 7 with fail
  refine zw 29 (fun wx=>wx.cell? ⟨w.heap.size,a7,none⟩=some (.int .u32 x7)∧wx.cell? ⟨w.heap.size,a16,none⟩=some (.int .u32 x16)) (by kernel_rfl) (⟨b7,b16⟩) (fun zy=>?_)
  refine Tk 0 rfl zy ?_
  refine Tk 1 rfl zy ?_
  refine Tk 3 rfl zy ?_
  refine Tk 6 rfl zy ?_
  refine Tk 7 rfl zy ?_
  refine Tk 9 rfl zy ?_
  refine Tk 10 rfl zy ?_
  refine Tk 11 rfl zy ?_
  refine Tk 12 rfl zy ?_
  refine Tk 14 rfl zy ?_
  refine Tk 16 rfl zy ?_
  refine Tk 19 rfl zy ?_
  refine Tk 20 rfl zy ?_
  refine Tk 23 rfl zy ?_
  refine Tk 24 rfl zy ?_
  refine Tk 25 rfl zy ?_
  refine Tk 26 rfl zy ?_
  refine To 2 rfl fun K hK=>?_
  go_simp
  refine(YJ _ _).mono ?_
  rintro e w5 ⟨rfl,rfl⟩
  clear zy
  refine hK.out _ _ (fun _=>?_) (fun zy=>?_)
  ·exact⟨b7,b16⟩
  clear hK K;replace zy:=zy (by decide)
  try simp only[Act.put,zz1,zz2,zz3,zz4,zz5,zz6]
  refine To 4 rfl fun K hK=>?_
  go_simp
  refine(YL _ _).mono ?_
  rintro e w5 ⟨rfl,rfl⟩
  clear zy
  refine hK.out _ _ (fun _=>?_) (fun zy=>?_)
  ·exact⟨b7,b16⟩
  clear hK K;replace zy:=zy (by decide)
  try simp only[Act.put,zz1,zz2,zz3,zz4,zz5,zz6]
  refine Tk 5 rfl zy ?_
  refine Tk 8 rfl zy ?_
  refine Tk 13 rfl zy ?_
  refine To 15 rfl fun K hK=>?_
  go_simp
  refine(Up _ _).mono ?_
  rintro e w5 ⟨rfl,rfl⟩
  clear zy
  refine hK.out _ _ (fun _=>?_) (fun zy=>?_)
  ·exact⟨b7,b16⟩
  clear hK K;replace zy:=zy (by decide)
  try simp only[Act.put,zz1,zz2,zz3,zz4,zz5,zz6]
  refine To 17 rfl fun K hK=>?_
  go_simp
  refine(YK _ _).mono ?_
  rintro e w5 ⟨rfl,rfl⟩
  clear zy
  refine hK.out _ _ (fun _=>?_) (fun zy=>?_)
  ·exact⟨b7,b16⟩
  clear hK K;replace zy:=zy (by decide)
  try simp only[Act.put,zz1,zz2,zz3,zz4,zz5,zz6]
  refine Tk 18 rfl zy ?_
  refine Tk 21 rfl zy ?_
  refine Tk 22 rfl zy ?_
  refine Tk 27 rfl zy ?_
  refine Tk 28 rfl zy ?_
  refine To 29 rfl fun K hK=>?_
  rw[if_pos (by rfl)]
  refine yY _ _ _ rfl w.heap.size k (.int .u32 (QB x15 x2 x7 x16)) rfl rfl _ _ Th pX (by rw[qw,vQ];omega) rfl fun w9 hW9 yL=>?_
  refine Kz hK ?_
  clear hK K
  refine Wd ?_
  clear zy;have Ty:Below w.heap.size w w9:=qC.drew.drew.grown yL qC.size (by rintro q ⟨⟩;exact Nat.le_refl _)
  have JK:Blk w9 w.heap.size 136 (uz (yE bs (k+1))):=by
   obtain⟨rfl,rfl,rfl,rfl⟩:=HJ.out;obtain⟨rfl,rfl,rfl,rfl⟩:=HX.out;rw[YF _ _ (by omega)]at hW9
   exact hW9
  clear hW9 yL Th;go_wp2_with fail
  go_roundw
  case rel=>exact⟨k+1,by go_num,by omega,JK,Ty⟩
  case measure=>simp[intOf];omega
 obtain rfl:k=64:=by omega
 rw[show((64:Nat):Int)=64 from rfl]at zB⊢;have Tj:=hh.below qC;have DR:=hKb.below qC;have d0:wr.cell? ⟨hg,0,none⟩=some (.int .u32 h0.a):=Tj.cell 0 rfl;have d1:wr.cell? ⟨hg,1,none⟩=some (.int .u32 h0.b):=Tj.cell 1 rfl;have d2:wr.cell? ⟨hg,2,none⟩=some (.int .u32 h0.c):=Tj.cell 2 rfl;have d3:wr.cell? ⟨hg,3,none⟩=some (.int .u32 h0.d):=Tj.cell 3 rfl;have d4:wr.cell? ⟨hg,4,none⟩=some (.int .u32 h0.e):=Tj.cell 4 rfl;have d5:wr.cell? ⟨hg,5,none⟩=some (.int .u32 h0.f):=Tj.cell 5 rfl;have d6:wr.cell? ⟨hg,6,none⟩=some (.int .u32 h0.g):=Tj.cell 6 rfl;have d7:wr.cell? ⟨hg,7,none⟩=some (.int .u32 h0.h):=Tj.cell 7 rfl;have HZ:=Hh qC.size;have CZ:Hid (hg<w.heap.size∧kg<w.heap.size):=⟨hh.lt,hKb.lt⟩
 obtain⟨G,hG⟩:∃ G,wr.heap.size=G:=⟨_,rfl⟩
 have ig:=Hh (Blk.new wr 137 h0.cells);rw[hG]at ig;have Fu:=hW.alloc (.cells h0.cells 137);have zK:=qC.alloc qC.size (.cells h0.cells 137);have HG:=Hh hG;have Eh:Hid (w.heap.size<G):=by have:=hW.lt;rw[Hid];omega
 clear HN zB Pq Tj hG;go_wp2_with fail
 rw[HG.out];go_loopw [98] (fun v98 wx=>∃ k:Nat,v98=.int .i64 (k:Int)∧k≤64∧Blk wx G 137 (uB KK (yE bs 64) h0 k).cells∧Blk wx w.heap.size 136 (uz (yE bs 64))∧Below w.heap.size w wx) (fun v98 _=>(64-intOf v98).toNat)
 case atStart=>exact⟨0,rfl,by omega,ig.out,Fu,zK⟩
 case round =>
 clear Fu zK ig d0 d1 d2 d3 d4 d5 d6 d7 hW DR;obtain⟨k,rfl,Pq,hS,Kl,yH⟩:=hrel
 by_cases zB:(k:Int)<64
 ·obtain⟨s,hs⟩:∃ s,uB KK (yE bs 64) h0 k=s:=⟨_,rfl⟩
  rw[hs]at hS;have QI:=Hh hs;clear hs;have c0:wr.cell? ⟨G,0,none⟩=some (.int .u32 s.a):=hS.cell 0 rfl;have c1:wr.cell? ⟨G,1,none⟩=some (.int .u32 s.b):=hS.cell 1 rfl;have c2:wr.cell? ⟨G,2,none⟩=some (.int .u32 s.c):=hS.cell 2 rfl;have c3:wr.cell? ⟨G,3,none⟩=some (.int .u32 s.d):=hS.cell 3 rfl;have c4:wr.cell? ⟨G,4,none⟩=some (.int .u32 s.e):=hS.cell 4 rfl;have c5:wr.cell? ⟨G,5,none⟩=some (.int .u32 s.f):=hS.cell 5 rfl;have c6:wr.cell? ⟨G,6,none⟩=some (.int .u32 s.g):=hS.cell 6 rfl;have c7:wr.cell? ⟨G,7,none⟩=some (.int .u32 s.h):=hS.cell 7 rfl;have ck:=(hKb.below yH).cell k (tQ _ _ (by have:=CG.out;omega));have cw:=Kl.cell k (tQ _ _ (by rw[vQ];omega));obtain⟨xk,OY⟩:∃ x,uy KK k=x:=⟨_,rfl⟩
  obtain⟨xw,Zl⟩:∃ x,uy (yE bs 64) k=x:=⟨_,rfl⟩
  rw[OY]at ck;rw[Zl]at cw;have HX:=Hh (And.intro OY Zl);clear OY Zl;go_upto_region 13 with fail
  refine zw 6 (fun wx=>wx.cell? ⟨G,0,none⟩=some (.int .u32 s.a)∧wx.cell? ⟨G,4,none⟩=some (.int .u32 s.e)) (by kernel_rfl) (⟨c0,c4⟩) (fun zy=>?_)
  refine TkS 0 rfl zy ?_
  refine TkS 1 rfl zy ?_
  refine TkS 2 rfl zy ?_
  refine TkS 3 rfl zy ?_
  refine TkS 4 rfl zy ?_
  refine TkS 5 rfl zy ?_
  refine Wd ?_
  clear zy;go_upto_region 14 with fail
  refine zw 33 (fun wx=>wx.cell? ⟨G,7,none⟩=some (.int .u32 s.h)∧wx.cell? ⟨G,5,none⟩=some (.int .u32 s.f)∧wx.cell? ⟨G,6,none⟩=some (.int .u32 s.g)∧wx.cell? ⟨kg,k,none⟩=some (.int .u32 xk)∧wx.cell? ⟨w.heap.size,k,none⟩=some (.int .u32 xw)) (by kernel_rfl) (⟨c7,c5,c6,ck,cw⟩) (fun zy=>?_)
  refine TkS 0 rfl zy ?_
  refine TkS 1 rfl zy ?_
  refine TkS 2 rfl zy ?_
  refine TkS 4 rfl zy ?_
  refine TkS 7 rfl zy ?_
  refine TkS 11 rfl zy ?_
  refine TkS 12 rfl zy ?_
  refine TkS 13 rfl zy ?_
  refine TkS 14 rfl zy ?_
  refine TkS 15 rfl zy ?_
  refine TkS 16 rfl zy ?_
  refine TkS 17 rfl zy ?_
  refine TkS 18 rfl zy ?_
  refine TkS 19 rfl zy ?_
  refine TkS 20 rfl zy ?_
  refine TkS 22 rfl zy ?_
  refine TkS 23 rfl zy ?_
  refine TkS 24 rfl zy ?_
  refine TkS 25 rfl zy ?_
  refine TkS 26 rfl zy ?_
  refine TkS 28 rfl zy ?_
  refine TkS 29 rfl zy ?_
  refine TkS 30 rfl zy ?_
  refine To 3 rfl fun K hK=>?_
  go_simp
  refine(Uo _ _).mono ?_
  rintro e w5 ⟨rfl,rfl⟩
  clear zy
  refine hK.out _ _ (fun _=>?_) (fun zy=>?_)
  ·exact⟨c7,c5,c6,ck,cw⟩
  clear hK K;replace zy:=zy (by decide)
  try simp only[Act.put,zz1,zz2,zz3,zz4,zz5,zz6]
  refine To 5 rfl fun K hK=>?_
  go_simp
  refine(YH _ _).mono ?_
  rintro e w5 ⟨rfl,rfl⟩
  clear zy
  refine hK.out _ _ (fun _=>?_) (fun zy=>?_)
  ·exact⟨c7,c5,c6,ck,cw⟩
  clear hK K;replace zy:=zy (by decide)
  try simp only[Act.put,zz1,zz2,zz3,zz4,zz5,zz6]
  refine TkS 6 rfl zy ?_
  refine To 8 rfl fun K hK=>?_
  go_simp
  refine(YN _ _).mono ?_
  rintro e w5 ⟨rfl,rfl⟩
  clear zy
  refine hK.out _ _ (fun _=>?_) (fun zy=>?_)
  ·exact⟨c7,c5,c6,ck,cw⟩
  clear hK K;replace zy:=zy (by decide)
  try simp only[Act.put,zz1,zz2,zz3,zz4,zz5,zz6]
  refine TkS 9 rfl zy ?_
  refine TkS 10 rfl zy ?_
  refine TkS 21 rfl zy ?_
  refine TkS 27 rfl zy ?_
  refine TkS 31 rfl zy ?_
  refine TkS 32 rfl zy ?_
  refine Wd ?_
  clear zy;go_upto_region 15 with fail
  refine zw 25 (fun wx=>wx.cell? ⟨G,1,none⟩=some (.int .u32 s.b)∧wx.cell? ⟨G,2,none⟩=some (.int .u32 s.c)) (by kernel_rfl) (⟨c1,c2⟩) (fun zy=>?_)
  refine TkS 0 rfl zy ?_
  refine TkS 2 rfl zy ?_
  refine TkS 5 rfl zy ?_
  refine TkS 8 rfl zy ?_
  refine TkS 9 rfl zy ?_
  refine TkS 10 rfl zy ?_
  refine TkS 11 rfl zy ?_
  refine TkS 12 rfl zy ?_
  refine TkS 13 rfl zy ?_
  refine TkS 14 rfl zy ?_
  refine TkS 15 rfl zy ?_
  refine TkS 16 rfl zy ?_
  refine TkS 17 rfl zy ?_
  refine TkS 18 rfl zy ?_
  refine TkS 19 rfl zy ?_
  refine TkS 20 rfl zy ?_
  refine TkS 21 rfl zy ?_
  refine TkS 22 rfl zy ?_
  refine To 1 rfl fun K hK=>?_
  go_simp
  refine(Un _ _).mono ?_
  rintro e w5 ⟨rfl,rfl⟩
  clear zy
  refine hK.out _ _ (fun _=>?_) (fun zy=>?_)
  ·exact⟨c1,c2⟩
  clear hK K;replace zy:=zy (by decide)
  try simp only[Act.put,zz1,zz2,zz3,zz4,zz5,zz6]
  refine To 3 rfl fun K hK=>?_
  go_simp
  refine(YI _ _).mono ?_
  rintro e w5 ⟨rfl,rfl⟩
  clear zy
  refine hK.out _ _ (fun _=>?_) (fun zy=>?_)
  ·exact⟨c1,c2⟩
  clear hK K;replace zy:=zy (by decide)
  try simp only[Act.put,zz1,zz2,zz3,zz4,zz5,zz6]
  refine TkS 4 rfl zy ?_
  refine To 6 rfl fun K hK=>?_
  go_simp
  refine(YM _ _).mono ?_
  rintro e w5 ⟨rfl,rfl⟩
  clear zy
  refine hK.out _ _ (fun _=>?_) (fun zy=>?_)
  ·exact⟨c1,c2⟩
  clear hK K;replace zy:=zy (by decide)
  try simp only[Act.put,zz1,zz2,zz3,zz4,zz5,zz6]
  refine TkS 7 rfl zy ?_
  refine TkS 23 rfl zy ?_
  refine TkS 24 rfl zy ?_
  refine Wd ?_
  clear zy;go_wp2_with (with_reducible refine zx ?_)
  refine zv rfl _ _ _ rfl rfl G (VZ s xk xw).cells rfl rfl _ _ hS Sg rfl (S8.one _) fun w9 N9 yL=>?_
  have ed:Blk w9 G 137 (uB KK (yE bs 64) h0 (k+1)).cells:=by
   rw[uB,QI.out,HX.out.1,HX.out.2]
   exact N9
  have FV:w.heap.size<G:=Eh.out;have Hn:=Kl.drew.drew.drew.grown yL (by intro hc;injection hc;omega);have tj:=yH.drew.drew.drew.grown yL yH.size (by rintro q ⟨⟩;omega);clear N9 yL hS Kl c0 c1 c2 c3 c4 c5 c6 c7 ck cw yH FV;go_wp2_with fail
  go_roundw
  case rel=>exact⟨k+1,by go_num,by omega,ed,Hn,tj⟩
  case measure=>simp[intOf];omega
 obtain rfl:k=64:=by omega
 rw[show((64:Nat):Int)=64 from rfl]at zB⊢;obtain⟨s,hs⟩:∃ s,uB KK (yE bs 64) h0 64=s:=⟨_,rfl⟩
 rw[hs]at hS;have QI:=Hh hs;have GC:=hh.below yH;have FV:w.heap.size<G:=Eh.out;have BO:hg<w.heap.size:=CZ.out.1;clear hs zB Pq hKb Kl;go_wp2_with fail
 go_loopw [180] (fun v180 wx=>∃ k:Nat,v180=.int .i64 (k:Int)∧k≤8∧Blk wx hg 137 (uz (eX h0.list s.list k))∧Blk wx G 137 (uz s.list)∧w.grownBy wx (some hg)) (fun v180 _=>(8-intOf v180).toNat)
 case atStart=>exact⟨0,rfl,by omega,GC,hS,xq yH _⟩
 case round =>
 clear GC hS yH;obtain⟨k,rfl,U3,NK,JH,JU⟩:=hrel
 by_cases zB:(k:Int)<8
 ·have ch:=NK.drew.cell k (tQ _ _ (by rw[jl];simp[S8.list];omega));have cs:=JH.drew.cell k (tQ _ _ (by simp[S8.list];omega));obtain⟨xh,Ju⟩:∃ x,uy (eX h0.list s.list k) k=x:=⟨_,rfl⟩
  obtain⟨xs,Wa⟩:∃ x,uy s.list k=x:=⟨_,rfl⟩
  rw[Ju]at ch;rw[Wa]at cs;have HX:=Hh (And.intro Ju Wa);clear Ju Wa;go_upto_region 21 with fail
  refine zw 11 (fun wx=>wx.cell? ⟨hg,k,none⟩=some (.int .u32 xh)∧wx.cell? ⟨G,k,none⟩=some (.int .u32 xs)) (by kernel_rfl) (⟨ch,cs⟩) (fun zy=>?_)
  refine Tk 0 rfl zy ?_
  refine Tk 1 rfl zy ?_
  refine Tk 2 rfl zy ?_
  refine Tk 3 rfl zy ?_
  refine Tk 4 rfl zy ?_
  refine Tk 5 rfl zy ?_
  refine Tk 6 rfl zy ?_
  refine Tk 7 rfl zy ?_
  refine Tk 8 rfl zy ?_
  refine Tk 9 rfl zy ?_
  refine Tk 10 rfl zy ?_
  refine To 11 rfl fun K hK=>?_
  rw[if_pos (by rfl)]
  refine yY _ _ _ rfl hg k (.int .u32 (IntKind.u32.wrap (xh+xs))) rfl rfl _ _ NK.drew pX (by rw[qw,jl];simp[S8.list];omega) rfl fun w9 hh9 yL=>?_
  refine Kz hK ?_
  clear hK K
  refine Wd ?_
  clear zy
  have I0:Blk w9 hg 137 (uz (eX h0.list s.list (k+1))):=by
   obtain⟨rfl,rfl⟩:=HX.out;rw[pW]at hh9
   exact hh9
  have ed:=JH.drew.grown yL (by intro hc;injection hc;omega);have wk:=z8 (vr JU) yL (.inl rfl);clear hh9 yL ch cs NK JH JU;go_wp2_with fail
  go_roundw
  case rel=>exact⟨k+1,by go_num,by omega,I0,ed,wk⟩
  case measure=>simp[intOf];omega
 obtain rfl:k=8:=by omega
 rw[show((8:Nat):Int)=8 from rfl]at zB⊢;have hE:uz (eX h0.list s.list 8)=(pY KK h0 bs).cells:=by rw[pY,QI.out];rfl
 rw[hE]at NK;clear hE;go_wp2_with fail
 go_end0
 exact⟨⟨_,rfl⟩,NK,JU⟩
def Rq:List Int:=[4794697086780616226,8158064640168781261,13096744586834688815,16840607885511220156,4131703408338449720,6480981068601479193,10538285296894168987,12329834152419229976,15566598209576043074,1334009975649890238,2608012711638119052,6128411473006802146,8268148722764581231,9286055187155687089,11230858885718282805,13951009754708518548,16472876342353939154,17275323862435702243,1135362057144423861,2597628984639134821,3308224258029322869,5365058923640841347,6679025012923562964,8573033837759648693,10970295158949994411,12119686244451234320,12683024718118986047,13788192230050041572,14330467153632333762,15395433587784984357,489312712824947311,1452737877330783856,2861767655752347644,3322285676063803686,5560940570517711597,5996557281743188959,7280758554555802590,8532644243296465576,9350256976987008742,10552545826968843579,11727347734174303076,12113106623233404929,14000437183269869457,14369950271660146224,15101387698204529176,15463397548674623760,17586052441742319658,1182934255886127544,1847814050463011016,2177327727835720531,2830643537854262169,3796741975233480872,4115178125766777443,5681478168544905931,6601373596472566643,7507060721942968483,8399075790359081724,8693463985226723168,9568029438360202098,10144078919501101548,10430055236837252648,11840083180663258601,13761210420658862357,14299343276471374635,14566680578165727644,15097957966210449927,16922976911328602910,17689382322260857208,500013540394364858,748580250866718886,1242879168328830382,1977374033974150939,2944078676154940804,3659926193048069267,4368137639120453308,4836135668995329356,5532061633213252278,6448918945643986474,6902733635092675308,7801388544844847127]
def uY (x:Int):Int:=IntKind.u32.wrap (x/4294967296)
def tz:List Int:=Rq.map uY
def Vb:S8:=⟨uY 7640891576956012808,uY 13503953896175478587,uY 4354685564936845355,uY 11912009170470909681,uY 5840696475078001361,uY 11170449401992604703,uY 2270897969802886507,uY 6620516959819538809⟩
def YZ (m:List UInt8) (k:Nat):List UInt8:=(m.drop (64*k)).take 64
def kN (m:List UInt8):Nat→S8
 | 0=>Vb
 | k+1=>pY tz (kN m k) (YZ m k)
def kM (x:Int) (d:Int):UInt8:=UInt8.ofNat (x/d%256).toNat
def t8 (x:Int):List UInt8:=[kM x 16777216,kM x 65536,kM x 256,kM x 1]
def lK (l:List UInt8):List UInt8:=(kN (qn l) ((qn l).length/64)).list.flatMap t8
theorem XI (x d:Int):zq (kM x d)=.int .u8 (IntKind.u8.wrap (x/d)):=by
 have h:((x/d%256).toNat:Int)=x/d%256:=Int.toNat_of_nonneg (Int.emod_nonneg _ (by decide));have h2:(x/d%256).toNat<256:=by have:=Int.emod_lt_of_pos (x/d) (show(0:Int)<256 by decide);omega
 rw[zq,kM,UInt8.toNat_ofNat',Nat.mod_eq_of_lt h2,h];rfl
theorem rD (l:List UInt8):(lK l).length=32:=rfl
theorem UG {m:List UInt8}{k:Nat}(h:64*k+64≤m.length):(YZ m k).length=64:=by
 rw[YZ,List.length_take,List.length_drop]
 omega
def kP:Nat→List Int
 | 0=>List.replicate 64 0
 | k+1=>(kP k).set k (uy tz k)
theorem VG:∀ k,(kP k).length=64
 | 0=>rfl
 | k+1=>by rw[kP,List.length_set,VG k]
def KK:List Int:=tz.take 64
theorem Oi:KK.length=64:=rfl
theorem LT:kP 64=KK:=by kernel_rfl
theorem X5:((List.range 64).all fun i=>decide (uY ((yJ (sE.take 64) i:Nat):Int)=uy tz i))=true:=by kernel_rfl
theorem UB {i:Nat}(h:i<64):uY ((yJ (sE.take 64) i:Nat):Int)=uy tz i:=by
 have h1:=X5;rw[List.all_eq_true]at h1
 exact of_decide_eq_true (h1 i (List.mem_range.2 h))
def hP8:Nat→List Int
 | 0=>List.replicate 8 0
 | k+1=>(hP8 k).set k (uY ((yJ vy k:Nat):Int))
theorem ZG:∀ k,(hP8 k).length=8
 | 0=>rfl
 | k+1=>by rw[hP8,List.length_set,ZG k]
theorem LC:hP8 8=Vb.list:=by kernel_rfl
theorem Oh {i:Nat}(h:i<64):uy KK i=uy tz i:=by
 unfold uy KK
 rw[List.getD_eq_getElem?_getD,List.getD_eq_getElem?_getD,List.getElem?_take,if_pos h]
theorem oQ {K K' W:List Int}{h:S8}:∀ n,(∀ i,i<n→uy K i=uy K' i)→uB K W h n=uB K' W h n
 | 0,_=>rfl
 | n+1,hn=>by rw[uB,uB,oQ n (fun i hi=>hn i (by omega)),hn n (by omega)]
theorem XF (h:S8) (bs:List UInt8):pY KK h bs=pY tz h bs:=by
 unfold pY
 rw[oQ 64 (fun i hi=>Oh hi)]
theorem aK (m:List UInt8) (k:Nat):kN m (k+1)=pY tz (kN m k) (YZ m k):=rfl
def em (s:S8) (i:Nat):List UInt8:=(s.list.take i).flatMap t8
theorem P9 (s:S8):em s 8=s.list.flatMap t8:=by rw[em,List.take_of_length_le (by rw[S8.list];simp)]
theorem uS (x:Int):(t8 x).length=4:=rfl
theorem Uc (s:S8) (i:Nat) (h:i≤8):(em s i).length=4*i:=by
 obtain rfl | rfl | rfl | rfl | rfl | rfl | rfl | rfl | rfl:i=0∨i=1∨i=2∨i=3∨i=4∨i=5∨i=6∨i=7∨i=8:=by omega
 all_goals rfl
theorem Xu (s:S8) (i:Nat) (h:i<8):em s i++t8 (uy s.list i)=em s (i+1):=by
 have hl:i<s.list.length:=by rw[S8.list];exact h
 rw[em,em,List.take_succ_eq_append_getElem hl,List.flatMap_append,List.flatMap_singleton]
 unfold uy
 rw[List.getD_eq_getElem?_getD,List.getElem?_eq_getElem hl];rfl
theorem oq (x d:Int):zq (kM x d)=.int .u8 (x/d%256):=by
 rw[XI,IntKind.wrap_u8]
theorem wH (x:Int):(t8 x).map zq=[.int .u8 (x/16777216%256),.int .u8 (x/65536%256),.int .u8 (x/256%256),.int .u8 (x%256)]:=by
 simp only[t8,List.map_cons,List.map_nil]
 rw[oq,oq,oq,oq,Int.ediv_one]
end Go.Proofs.YtliomcphdnppnaaGreatDoor
namespace Go.Proofs.YtliomcphdnppnaaGreatDoor
theorem fZ:∀ (k:Nat) (x y:List Nat),W64 x→W64 y→k<x.length→k<y.length→x.drop (k+1)=y.drop (k+1)→yJ x k≠yJ y k→(num x<num y↔yJ x k<yJ y k)
 | _,[],_,_,_,h,_,_,_=>by simp at h
 | _,_::_,[],_,_,_,h,_,_=>by simp at h
 | 0,a::x,b::y,hx,hy,_,_,hd,wS=>by
  have e:x=y:=by simpa using hd
  have h1:a<18446744073709551616:=hx a (by simp);have h2:b<18446744073709551616:=hy b (by simp);subst e;have e1:num (a::x)=a+18446744073709551616*num x:=rfl;have e2:num (b::x)=b+18446744073709551616*num x:=rfl;have e3:yJ (a::x) 0=a:=rfl;have e4:yJ (b::x) 0=b:=rfl;rw[e1,e2,e3,e4]
  omega
 | k+1,a::x,b::y,hx,hy,Ks,Zg,hd,wS=>by
  have g1:yJ (a::x) (k+1)=yJ x k:=rfl;have g2:yJ (b::y) (k+1)=yJ y k:=rfl;rw[g1,g2]at wS⊢;have Wx:W64 x:=fun c hc=>hx c (by simp[hc])
  have U7:W64 y:=fun c hc=>hy c (by simp[hc])
  have i1:=fZ k x y Wx U7 (by simpa using Ks) (by simpa using Zg) (by simpa using hd) wS;have i2:=fZ k y x U7 Wx (by simpa using Zg) (by simpa using Ks) (by simpa using hd.symm) (Ne.symm wS);have h1:a<18446744073709551616:=hx a (by simp);have h2:b<18446744073709551616:=hy b (by simp);have e1:num (a::x)=a+18446744073709551616*num x:=rfl;have e2:num (b::y)=b+18446744073709551616*num y:=rfl;rw[e1,e2]
  omega
theorem Y1 {a k n B:Nat}(h:k≤n) (hn:a ^ n<B) (hk:0<k):a ^ k<B:=by
 rcases Nat.eq_zero_or_pos a with h0 | h0
 ·subst h0;rw[Nat.zero_pow (show 0<n by omega)]at hn;rw[Nat.zero_pow hk]
  exact hn
 exact Nat.lt_of_le_of_lt (Nat.pow_le_pow_right h0 h) hn
theorem rS {α:Type}{l:List α}(h:l.length=4):∃ a b c d,l=[a,b,c,d]:=by
 match l,h with
 | [a,b,c,d],_=>exact⟨a,b,c,d,rfl⟩
end Go.Proofs.YtliomcphdnppnaaGreatDoor
namespace Go.Proofs.YtliomcphdnppnaaGreatDoor
theorem eK {p n N:Nat}(hn:n=2∨n=3) (hp:p<1000) (h:N ^ n≤p*18446744073709551616 ^ n):N<32*18446744073709551616:=by
 apply Nat.lt_of_not_le
 intro hN
 have h1:=Nat.pow_le_pow_left hN n;have h2:(32*18446744073709551616) ^ n=32 ^ n*18446744073709551616 ^ n:=Nat.mul_pow _ _ _
 have h3:p*18446744073709551616 ^ n<32 ^ n*18446744073709551616 ^ n:=by
  apply Nat.mul_lt_mul_of_pos_right
  ·rcases hn with rfl | rfl <;> omega
  exact Nat.pow_pos (by decide)
 omega
theorem sW {n N:Nat}(hn:n=2∨n=3) (h:N≤34*18446744073709551616):N ^ n<18446744073709551616 ^ 4:=by
 have h1:=Nat.pow_le_pow_left h n;have h2:(34*18446744073709551616) ^ n<18446744073709551616 ^ 4:=by rcases hn with rfl | rfl <;> decide
 omega
theorem eL {p n N:Nat}(hp:1≤p) (h:p*18446744073709551616 ^ n<N ^ n):18446744073709551616<N:=by
 apply Nat.lt_of_not_le
 intro hN
 have h1:=Nat.pow_le_pow_left hN n;have h2:1*18446744073709551616 ^ n≤p*18446744073709551616 ^ n:=Nat.mul_le_mul_right _ hp
 omega
theorem ZF {n p c N:Nat}(hn:n=2∨n=3) (hc:c<18446744073709551616) (hf:pZ n p c=true) (h1:N ^ n≤p*18446744073709551616 ^ n) (h2:p*18446744073709551616 ^ n<(N+1) ^ n):N%18446744073709551616=c:=by
 unfold pZ at hf
 rw[List.any_eq_true]at hf;obtain⟨w,_,hw⟩:=hf
 simp only[Bool.and_eq_true,decide_eq_true_eq]at hw
 have e:=dI (by omega) h1 h2 hw.1 hw.2;rw[e]
 omega
end Go.Proofs.YtliomcphdnppnaaGreatDoor
namespace Go.Proofs.YtliomcphdnppnaaGreatDoor
def lz (l:List Nat) (p:Nat):List Nat:=if l.all (fun q=>p%q != 0) then l++[p] else l
def uD:Nat→List Nat
 | 0=>[]
 | k+1=>lz (uD k) (k+2)
theorem YR (l:List Nat) (p:Nat):l.length≤(lz l p).length∧(lz l p).length≤l.length+1:=by
 unfold lz
 split <;> simp
theorem oF (a:Nat):∀ d,(uD a).length≤(uD (a+d)).length
 | 0=>Nat.le_refl _
 | d+1=>Nat.le_trans (oF a d) (YR _ _).1
theorem YW:(uD 309).length=63:=by kernel_rfl
theorem gk:uD 310=vw.take 64:=by kernel_rfl
theorem Uw {k:Nat}(h:(uD k).length<64):k≤309:=by
 apply Nat.le_of_not_lt
 intro hk
 have h1:=oF 310 (k-310);rw[show 310+(k-310)=k by omega,gk]at h1;have h2:(vw.take 64).length=64:=rfl
 omega
theorem bF {k:Nat}(h1:k≤310) (h2:¬ (uD k).length<64):uD k=vw.take 64:=by
 have h3:k=310:=by
  rcases Nat.lt_or_ge k 310 with h | h
  ·have h4:=oF k (309-k);rw[show k+(309-k)=309 by omega,YW]at h4
   omega
  omega
 rw[h3,gk]
theorem gl:∀ k,∀ q∈uD k,2≤q∧q≤k+1
 | 0,q,h=>by simp[uD]at h
 | k+1,q,h=>by
  have ih:=gl k q;rw[uD,lz]at h
  split at h
  ·rw[List.mem_append]at h
   rcases h with h | h
   ·have:=ih h;omega
   simp at h;omega
  have:=ih h;omega
theorem iF {α:Type}(f:α→Bool) (l:List α) (j:Nat) (hj:j<l.length):(l.take (j+1)).all f=((l.take j).all f&&f l[j]):=by
 rw[List.take_succ_eq_append_getElem hj,List.all_append]
 simp
theorem YS {l:List Nat}{p:Nat}(h:l.all (fun q=>p%q != 0)=true):lz l p=l++[p]:=if_pos h
theorem Ut {l:List Nat}{p:Nat}(h:l.all (fun q=>p%q != 0)=false):lz l p=l:=if_neg (by rw[h];decide)
end Go.Proofs.YtliomcphdnppnaaGreatDoor
namespace Go.Proofs.YtliomcphdnppnaaGreatDoor
open Go.RowKit
theorem o9 (x:Nat) (hx:x<18446744073709551616):bits .and .u64 (x:Int) 4294967295=((x%4294967296:Nat):Int):=by
 have h1:(BitVec.ofInt 64 (x:Int)).toNat=x:=by
  rw[BitVec.ofInt_natCast,BitVec.toNat_ofNat];exact Nat.mod_eq_of_lt (by omega)
 have h2:(BitVec.ofInt 64 (4294967295:Int)).toNat=4294967295:=by decide
 show IntKind.u64.wrap ((BitVec.ofInt 64 (x:Int) &&& BitVec.ofInt 64 4294967295).toNat:Int)=_
 have h3:x &&& 4294967295=x%4294967296:=by
  have:=Nat.and_two_pow_sub_one_eq_mod x 32
  simpa using this
 rw[BitVec.toNat_and,h1,h2,h3,IntKind.wrap_u64]
 omega
theorem xu (n:Nat) (h:n<18446744073709551616):IntKind.u64.wrap (n:Int)=(n:Int):=IntWalk.u64_in _ (by omega)
theorem Zq (x y:Nat) (hx:x<18446744073709551616) (hy:y<18446744073709551616) (w:World) :
  Calls Tryz.prog 211 #[.int .u64 (x:Int),.int .u64 (y:Int)] w fun e w' =>
   e=.returned (.tuple #[.int .u64 ((x*y/18446744073709551616:Nat):Int),.int .u64 ((x*y%18446744073709551616:Nat):Int)])∧w=w':=by
 obtain⟨l1,l2,l3,l4⟩:=Lib.mul64_hi x y hx hy;have A1:bits .and .u64 (x:Int) 4294967295=((x%4294967296:Nat):Int):=o9 x hx;have A2:bits .and .u64 (y:Int) 4294967295=((y%4294967296:Nat):Int):=o9 y hy;have D1:(x:Int)/4294967296=((x/4294967296:Nat):Int):=by omega
 have D2:(y:Int)/4294967296=((y/4294967296:Nat):Int):=by omega
 have Rb:IntKind.u64.wrap ((x:Int)*(y:Int))=((x*y%18446744073709551616:Nat):Int):=by rw[IntKind.wrap_u64,← Int.natCast_mul];omega
 have qM:=Lib.half_mul_le (a:=x/4294967296) (b:=y%4294967296) (by omega) (by omega);have ip:=Lib.half_mul_le (a:=x%4294967296) (b:=y/4294967296) (by omega) (by omega);have OQ:=Lib.half_mul_le (a:=x/4294967296) (b:=y/4294967296) (by omega) (by omega);obtain⟨lo,Pu⟩:∃ n,x*y%18446744073709551616=n:=⟨_,rfl⟩
 obtain⟨hi,T9⟩:∃ n,x*y/18446744073709551616=n:=⟨_,rfl⟩
 have GD:hi<18446744073709551616:=by
  rw[← T9];have:=Nat.mul_le_mul (show x≤18446744073709551615 by omega) (show y≤18446744073709551615 by omega)
  omega
 rw[Pu]at Rb;rw[Pu,T9];rw[T9]at l4;obtain⟨x0,Rf⟩:∃ n,x%4294967296=n:=⟨_,rfl⟩
 obtain⟨x1,gF⟩:∃ n,x/4294967296=n:=⟨_,rfl⟩
 obtain⟨y0,Gg⟩:∃ n,y%4294967296=n:=⟨_,rfl⟩
 obtain⟨y1,Gh⟩:∃ n,y/4294967296=n:=⟨_,rfl⟩
 rw[Rf]at A1 l1 l2 l3 l4 ip;rw[gF]at D1 l2 l3 l4 qM OQ;rw[Gg]at A2 l1 l2 l3 l4 qM;rw[Gh]at D2 l3 l4 ip OQ;obtain⟨w0,L5⟩:∃ n,x0*y0=n:=⟨_,rfl⟩
 obtain⟨p1,ir⟩:∃ n,x1*y0=n:=⟨_,rfl⟩
 obtain⟨p2,Qi⟩:∃ n,x0*y1=n:=⟨_,rfl⟩
 obtain⟨p3,Tq⟩:∃ n,x1*y1=n:=⟨_,rfl⟩
 rw[L5]at l1 l2 l3 l4;rw[ir]at l2 l3 l4 qM;rw[Qi]at l3 l4 ip;rw[Tq]at l4 OQ;have M0:IntKind.u64.wrap ((x0:Int)*(y0:Int))=(w0:Int):=by rw[← Int.natCast_mul,L5];exact xu _ l1
 have M1:IntKind.u64.wrap ((x1:Int)*(y0:Int))=(p1:Int):=by rw[← Int.natCast_mul,ir];exact xu _ (by omega)
 have M2:IntKind.u64.wrap ((x0:Int)*(y1:Int))=(p2:Int):=by rw[← Int.natCast_mul,Qi];exact xu _ (by omega)
 have M3:IntKind.u64.wrap ((x1:Int)*(y1:Int))=(p3:Int):=by rw[← Int.natCast_mul,Tq];exact xu _ (by omega)
 clear Rf gF Gg Gh L5 ir Qi Tq qM ip Pu T9;obtain⟨q0,mB⟩:∃ n,w0/4294967296=n:=⟨_,rfl⟩
 have D3:(w0:Int)/4294967296=(q0:Int):=by omega
 rw[mB]at l2 l3 l4;obtain⟨t,ht⟩:∃ n,p1+q0=n:=⟨_,rfl⟩
 rw[ht]at l2 l3 l4;have S1:IntKind.u64.wrap ((p1:Int)+(q0:Int))=(t:Int):=by rw[← Int.natCast_add,ht];exact xu _ l2
 have A3:=o9 t l2;obtain⟨w1,qr⟩:∃ n,t%4294967296=n:=⟨_,rfl⟩
 obtain⟨w2,lQ⟩:∃ n,t/4294967296=n:=⟨_,rfl⟩
 have D4:(t:Int)/4294967296=(w2:Int):=by omega
 rw[qr]at A3 l3 l4;rw[lQ]at l4;obtain⟨v,hv⟩:∃ n,w1+p2=n:=⟨_,rfl⟩
 rw[hv]at l3 l4;have S2:IntKind.u64.wrap ((w1:Int)+(p2:Int))=(v:Int):=by rw[← Int.natCast_add,hv];exact xu _ l3
 obtain⟨q1,lP⟩:∃ n,v/4294967296=n:=⟨_,rfl⟩
 have D5:(v:Int)/4294967296=(q1:Int):=by omega
 rw[lP]at l4;obtain⟨p4,gD⟩:∃ n,p3+w2=n:=⟨_,rfl⟩
 rw[gD]at l4;have S3:IntKind.u64.wrap ((p3:Int)+(w2:Int))=(p4:Int):=by rw[← Int.natCast_add,gD];exact xu _ (by omega)
 have S4:IntKind.u64.wrap ((p4:Int)+(q1:Int))=(hi:Int):=by rw[← Int.natCast_add,l4];exact xu _ GD
 clear mB ht qr lQ hv lP gD l1 l2 l3 l4 OQ GD hx hy;go_enter Tryz.func211,Tryz.ntmps211
 go_wp2_with fail
 go_ret2
 exact⟨rfl,rfl⟩
open Extern.MathBitsCarry in
theorem YB (x y c:Nat) (hc:c≤1) (w:World):(callFunc 199 #[.int .u64 (x:Int),.int .u64 (y:Int),.int .u64 (c:Int)]).run Tryz.prog w =
  .ok (.value (.tuple #[.int .u64 (((x+y+c)%18446744073709551616:Nat):Int),.int .u64 (((x+y+c)/18446744073709551616:Nat):Int)])) w:=by
 rw[run_callFunc_extern Tryz.func199 (by kernel_rfl) (by kernel_rfl) (by kernel_rfl) (e:=fun args=>do
  let (x, y, c) ← three "Add64" args
  pure (pair ((x+y+c)%m64) ((x+y+c)/m64))) (by kernel_rfl)]
 rcases(show c=0∨c=1 by omega) with rfl | rfl
 ·rfl
 rfl
open Extern.MathBitsCarry in
theorem gi (x y c:Nat) (hc:c≤1) (w:World):(callFunc 198 #[.int .u64 (x:Int),.int .u64 (y:Int),.int .u64 (c:Int)]).run Tryz.prog w =
  .ok (.value (.tuple #[.int .u64 (((x+18446744073709551616-y-c)%18446744073709551616:Nat):Int),.int .u64 ((if x<y+c then 1 else 0:Nat):Int)])) w:=by
 rw[run_callFunc_extern Tryz.func198 (by kernel_rfl) (by kernel_rfl) (by kernel_rfl) (e:=fun args=>do
  let (x, y, b) ← three "Sub64" args
  pure (pair ((x+m64-y-b)%m64) (if x<y+b then 1 else 0))) (by kernel_rfl)]
 rcases(show c=0∨c=1 by omega) with rfl | rfl
 ·rfl
 rfl
end Go.Proofs.YtliomcphdnppnaaGreatDoor
