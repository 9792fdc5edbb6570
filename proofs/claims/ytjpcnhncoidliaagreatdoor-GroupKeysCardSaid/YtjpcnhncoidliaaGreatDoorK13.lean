/- squeezed. SHA-256: what a block does to the  -/
import Derived.Test.YtjpcnhncoidliaaGreatDoorK12
import Derived.Deep.Cut
import Derived.Great.BuildSlice
set_option linter.unusedVariables false
set_option linter.unusedSimpArgs false
set_option maxRecDepth 100000
set_option maxHeartbeats 3200000
namespace Go.Proofs.YtjpcnhncoidliaaGreatDoor
open Go.RowKit
def wG (l:List Int):Array Value:=(l.map (Value.int .u32)).toArray
def wS (l:List Int) (i:Nat):Int:=l.getD i 0
theorem tq (l:List Int):(wG l).size=l.length:=by simp[wG]
theorem vl (l:List Int) (i:Nat) (h:i<l.length):(wG l)[i]? = some (.int .u32 (wS l i)):=by
 simp[wG,wS,h]
theorem qU (l:List Int) (i:Nat) (v:Int):(wG l).setIfInBounds i (.int .u32 v)=wG (l.set i v):=by
 simp[wG,List.map_set]
def uo (bs:List UInt8) (i:Nat):Int:=((bs.getD i 0).toNat:Int)
def Xo (b0 b1 b2 b3:Int):Int:=bits .or .u32 (bits .or .u32 (bits .or .u32 (IntKind.u32.wrap (IntKind.u32.wrap b0*16777216)) (IntKind.u32.wrap (IntKind.u32.wrap b1*65536))) (IntKind.u32.wrap (IntKind.u32.wrap b2*256))) (IntKind.u32.wrap b3)
def Rq (x y w7 w16:Int):Int :=
 IntKind.u32.wrap (IntKind.u32.wrap (IntKind.u32.wrap (bits .xor .u32 (bits .xor .u32 (uu 32768 131072 y) (uu 8192 524288 y)) (y/1024)+w7)+bits .xor .u32 (bits .xor .u32 (uu 33554432 128 x) (uu 16384 262144 x)) (x/8))+w16)
structure S8 where
 a:Int
 b:Int
 c:Int
 d:Int
 e:Int
 f:Int
 g:Int
 h:Int
def S8.cells (s:S8):Array Value:=#[.int .u32 s.a,.int .u32 s.b,.int .u32 s.c,.int .u32 s.d,.int .u32 s.e,.int .u32 s.f,.int .u32 s.g,.int .u32 s.h]
def S8.list (s:S8):List Int:=[s.a,s.b,s.c,s.d,s.e,s.f,s.g,s.h]
theorem S8.cells_eq (s:S8):s.cells=wG s.list:=rfl
theorem S8.one (s:S8):s.cells.all (·.oneCell')=true:=by simp[S8.cells,Value.oneCell']
def tP (s:S8) (k w:Int):Int :=
 s.h+bits .xor .u32 (bits .xor .u32 (uu 67108864 64 s.e) (uu 2097152 2048 s.e)) (uu 128 33554432 s.e)+bits .xor .u32 (bits .and .u32 s.e s.f) (bits .and .u32 (bits .xor .u32 IntKind.u32.max s.e) s.g)+k+w
def uP (s:S8):Int :=
 bits .xor .u32 (bits .xor .u32 (uu 1073741824 4 s.a) (uu 524288 8192 s.a)) (uu 1024 4194304 s.a)+bits .xor .u32 (bits .xor .u32 (bits .and .u32 s.a s.b) (bits .and .u32 s.a s.c)) (bits .and .u32 s.b s.c)
def Yu (s:S8) (k w:Int):S8:=⟨(tP s k w+uP s)%4294967296,s.a,s.b,s.c,(s.d+tP s k w)%4294967296,s.e,s.f,s.g⟩
def vH (K W:List Int) (h:S8):Nat→S8
 | 0=>h
 | k+1=>Yu (vH K W h k) (wS K k) (wS W k)
def ye (bs:List UInt8):Nat→List Int
 | 0=>List.replicate 64 0
 | k+1=>(ye bs k).set k (if k<16 then Xo (uo bs (4*k)) (uo bs (4*k+1)) (uo bs (4*k+2)) (uo bs (4*k+3))
   else Rq (wS (ye bs k) (k-15)) (wS (ye bs k) (k-2)) (wS (ye bs k) (k-7)) (wS (ye bs k) (k-16)))
theorem xV (bs:List UInt8):∀ k,(ye bs k).length=64
 | 0=>by simp[ye]
 | k+1=>by simp[ye,xV bs k]
theorem eM (bs:List UInt8) (k:Nat) (h:k<16):(wG (ye bs k)).setIfInBounds k (.int .u32 (Xo (uo bs (4*k)) (uo bs (4*k+1)) (uo bs (4*k+2)) (uo bs (4*k+3))))=wG (ye bs (k+1)):=by
 rw[qU,ye,if_pos h]
theorem eL (bs:List UInt8) (k:Nat) (h:16≤k):(wG (ye bs k)).setIfInBounds k (.int .u32 (Rq (wS (ye bs k) (k-15)) (wS (ye bs k) (k-2)) (wS (ye bs k) (k-7)) (wS (ye bs k) (k-16))))=wG (ye bs (k+1)):=by
 rw[qU,ye,if_neg (by omega)]
def ie (h s:List Int):Nat→List Int
 | 0=>h
 | k+1=>(ie h s k).set k (IntKind.u32.wrap (wS (ie h s k) k+wS s k))
theorem ny (h s:List Int):∀ k,(ie h s k).length=h.length
 | 0=>rfl
 | k+1=>by simp[ie,ny h s k]
def rV (K:List Int) (h:S8) (bs:List UInt8):S8 :=
 let s:=vH K (ye bs 64) h 64
 ⟨IntKind.u32.wrap (h.a+s.a),IntKind.u32.wrap (h.b+s.b),IntKind.u32.wrap (h.c+s.c),IntKind.u32.wrap (h.d+s.d),IntKind.u32.wrap (h.e+s.e),IntKind.u32.wrap (h.f+s.f),IntKind.u32.wrap (h.g+s.g),IntKind.u32.wrap (h.h+s.h)⟩
theorem l9:(Tryz.prog.info? 120).map (·.size)=some 8:=by kernel_rfl
theorem se:(Tryz.prog.info? 119).map (·.size)=some 1:=by kernel_rfl
theorem uB {H:Snap}{b off c:Nat}{bs:List UInt8}(hb:IsBytes H (some ⟨b,off,none⟩) c bs) (i:Nat) (hi:i<bs.length):H.cell? ⟨b,off+i,none⟩=some (.int .u8 (uo bs i)):=by
 obtain⟨b',off',e,h⟩:=hb.at_ (by omega)
 cases e
 rw[h i hi]
 simp[uo,hi]
theorem aT {H:Snap}{b off c:Nat}{bs:List UInt8}(hb:IsBytes H (some ⟨b,off,none⟩) c bs) (hl:bs.length=64) {hg kg:Nat}{h0:S8}{KK:List Int}(w:World) (hH:Holds w H)
  (hh:Blk w hg 120 h0.cells) (hKb:Blk w kg 131 (wG KK)) (hK64:KK.length=64) :
  Calls Tryz.prog 88 #[.pointer (some ⟨hg,0,none⟩),.pointer (some ⟨kg,0,none⟩),.slice (some ⟨b,off,none⟩) 64 c] w fun e w'=>(∃ v,e=.returned v)∧Blk w' hg 120 (rV KK h0 bs).cells∧w.grownBy w' (some hg):=by
 have HN:=Hh (Blk.new w 131 (wG (ye bs 0)));have HB:=Hh hb;have HL:=Hh hl;have HH:=Hh hH;have Hl:=Hh hK64;clear hb hl hH hK64;go_enter Tryz.func88,Tryz.ntmps88
 go_wp2_with fail
 go_loopw [17] (fun v17 wr=>∃ k:Nat,v17=.int .i64 (k:Int)∧k≤64∧Blk wr w.heap.size 131 (wG (ye bs k))∧Below w.heap.size w wr) (fun v17 _=>(64-intOf v17).toNat)
 case atStart=>exact⟨0,rfl,by omega,HN.out,zl _ _⟩
 case round =>
 obtain⟨k,rfl,ZK,hW,qM⟩:=hrel
 by_cases yy:(k:Int)<64
 ·by_cases h16:(k:Int)<16
  ·obtain⟨j0,ZW⟩:∃ j,4*k=j:=⟨_,rfl⟩
   obtain⟨j1,Sr⟩:∃ j,4*k+1=j:=⟨_,rfl⟩
   obtain⟨j2,V7⟩:∃ j,4*k+2=j:=⟨_,rfl⟩
   obtain⟨j3,Pz⟩:∃ j,4*k+3=j:=⟨_,rfl⟩
   have W0:IntKind.i64.wrap (4*(k:Int))=(j0:Int):=by rw[← ZW];exact IntWalk.i64_in _ (by omega)
   have W1:IntKind.i64.wrap ((j0:Int)+1)=(j1:Int):=by rw[← Sr,← ZW];exact IntWalk.i64_in _ (by omega)
   have W2:IntKind.i64.wrap ((j0:Int)+2)=(j2:Int):=by rw[← V7,← ZW];exact IntWalk.i64_in _ (by omega)
   have W3:IntKind.i64.wrap ((j0:Int)+3)=(j3:Int):=by rw[← Pz,← ZW];exact IntWalk.i64_in _ (by omega)
   have l0:(j0:Int)<64:=by omega
   have l1:(j1:Int)<64:=by omega
   have l2:(j2:Int)<64:=by omega
   have l3:(j3:Int)<64:=by omega
   have b0:=uB HB.out j0 (by have:=HL.out;omega);have b1:=uB HB.out j1 (by have:=HL.out;omega);have b2:=uB HB.out j2 (by have:=HL.out;omega);have b3:=uB HB.out j3 (by have:=HL.out;omega);have HJ:=Hh (And.intro ZW (And.intro Sr (And.intro V7 Pz)));clear ZW Sr V7 Pz;have Rw:=Hh (HH.out.below qM (Nat.le_refl _));have de:=hW.drew;go_upto_region 5 with fail
   refine zn 35 (fun wx=>wx.cell? ⟨b,off+j0,none⟩=some (.int .u8 (uo bs j0))∧wx.cell? ⟨b,off+j1,none⟩=some (.int .u8 (uo bs j1))∧wx.cell? ⟨b,off+j2,none⟩=some (.int .u8 (uo bs j2))∧wx.cell? ⟨b,off+j3,none⟩=some (.int .u8 (uo bs j3))) (by kernel_rfl) (⟨Rw.out.drew.cell b0,Rw.out.drew.cell b1,Rw.out.drew.cell b2,Rw.out.drew.cell b3⟩) (fun zy=>?_)
   refine Tk 0 rfl zy ?_
   refine Tk 1 rfl zy ?_
   refine Tk 2 rfl zy ?_
   refine Tk 3 rfl zy ?_
   refine Tk 4 rfl zy ?_
   refine Tk 5 rfl zy ?_
   refine Tk 6 rfl zy ?_
   refine Tk 7 rfl zy ?_
   refine Tk 8 rfl zy ?_
   refine Tk 9 rfl zy ?_
   refine Tk 10 rfl zy ?_
   refine Tk 11 rfl zy ?_
   refine Tk 12 rfl zy ?_
   refine Tk 13 rfl zy ?_
   refine Tk 14 rfl zy ?_
   refine Tk 15 rfl zy ?_
   refine Tk 16 rfl zy ?_
   refine Tk 17 rfl zy ?_
   refine Tk 18 rfl zy ?_
   refine Tk 19 rfl zy ?_
   refine Tk 20 rfl zy ?_
   refine Tk 21 rfl zy ?_
   refine Tk 22 rfl zy ?_
   refine Tk 23 rfl zy ?_
   refine Tk 24 rfl zy ?_
   refine Tk 25 rfl zy ?_
   refine Tk 26 rfl zy ?_
   refine Tk 27 rfl zy ?_
   refine Tk 28 rfl zy ?_
   refine Tk 29 rfl zy ?_
   refine Tk 30 rfl zy ?_
   refine Tk 31 rfl zy ?_
   refine Tk 32 rfl zy ?_
   refine Tk 33 rfl zy ?_
   refine Tk 34 rfl zy ?_
   refine To 35 rfl fun K hK=>?_
   rw[if_pos (by rfl)]
   refine yq _ _ _ rfl w.heap.size k (.int .u32 (Xo (uo bs j0) (uo bs j1) (uo bs j2) (uo bs j3))) rfl rfl _ _ de se (by rw[tq,xV];omega) rfl fun w9 hW9 hg9=>?_
   refine Kz hK ?_
   clear hK K
   refine Wd ?_
   clear zy;have Sn:Below w.heap.size w w9:=qM.drew.grown hg9 qM.size (by rintro q ⟨⟩;exact Nat.le_refl _)
   have Pt:Blk w9 w.heap.size 131 (wG (ye bs (k+1))):=by
    obtain⟨rfl,rfl,rfl,rfl⟩:=HJ.out;rw[eM _ _ (by omega)]at hW9
    exact hW9
   clear hW9 hg9 de;go_wp2_with fail
   go_roundw
   case rel=>exact⟨k+1,by go_num,by omega,Pt,Sn⟩
   case measure=>simp[intOf];omega
  have Gv:16≤k:=by omega
  obtain⟨a15,ZE⟩:∃ j,k-15=j:=⟨_,rfl⟩
  obtain⟨a2,oX⟩:∃ j,k-2=j:=⟨_,rfl⟩
  obtain⟨a7,Pw⟩:∃ j,k-7=j:=⟨_,rfl⟩
  obtain⟨a16,ZF⟩:∃ j,k-16=j:=⟨_,rfl⟩
  have W15:IntKind.i64.wrap ((k:Int)-15)=(a15:Int):=by rw[← ZE,show((k-15:Nat):Int)=(k:Int)-15 by omega];exact IntWalk.i64_in _ (by omega)
  have W2:IntKind.i64.wrap ((k:Int)-2)=(a2:Int):=by rw[← oX,show((k-2:Nat):Int)=(k:Int)-2 by omega];exact IntWalk.i64_in _ (by omega)
  have W7:IntKind.i64.wrap ((k:Int)-7)=(a7:Int):=by rw[← Pw,show((k-7:Nat):Int)=(k:Int)-7 by omega];exact IntWalk.i64_in _ (by omega)
  have W16:IntKind.i64.wrap ((k:Int)-16)=(a16:Int):=by rw[← ZF,show((k-16:Nat):Int)=(k:Int)-16 by omega];exact IntWalk.i64_in _ (by omega)
  have l15:(a15:Int)<64:=by omega
  have l2:(a2:Int)<64:=by omega
  have l7:(a7:Int)<64:=by omega
  have l16:(a16:Int)<64:=by omega
  have de:=hW.drew;have b15:=de.cell a15 (vl _ _ (by rw[xV];omega));have b2:=de.cell a2 (vl _ _ (by rw[xV];omega));have b7:=de.cell a7 (vl _ _ (by rw[xV];omega));have b16:=de.cell a16 (vl _ _ (by rw[xV];omega));have HJ:=Hh (And.intro ZE (And.intro oX (And.intro Pw ZF)));obtain⟨x15,ZM⟩:∃ x,wS (ye bs k) a15=x:=⟨_,rfl⟩
  obtain⟨x2,fV⟩:∃ x,wS (ye bs k) a2=x:=⟨_,rfl⟩
  obtain⟨x7,ZZ⟩:∃ x,wS (ye bs k) a7=x:=⟨_,rfl⟩
  obtain⟨x16,ZN⟩:∃ x,wS (ye bs k) a16=x:=⟨_,rfl⟩
  rw[ZM]at b15;rw[fV]at b2;rw[ZZ]at b7;rw[ZN]at b16;have HX:=Hh (And.intro ZM (And.intro fV (And.intro ZZ ZN)));clear ZE oX Pw ZF ZM fV ZZ ZN;go_upto_region 6 with fail
  refine zn 10 (fun wx=>wx.cell? ⟨w.heap.size,a15,none⟩=some (.int .u32 x15)∧wx.cell? ⟨w.heap.size,a2,none⟩=some (.int .u32 x2)) (by kernel_rfl) (⟨b15,b2⟩) (fun zy=>?_)
  refine TkS 0 rfl zy ?_
  refine TkS 1 rfl zy ?_
  refine TkS 2 rfl zy ?_
  refine TkS 3 rfl zy ?_
  refine TkS 4 rfl zy ?_
  refine TkS 5 rfl zy ?_
  refine TkS 6 rfl zy ?_
  refine TkS 7 rfl zy ?_
  refine TkS 8 rfl zy ?_
  refine TkS 9 rfl zy ?_
  refine Wd ?_
  clear zy;go_upto_region 7 with fail
  refine zn 29 (fun wx=>wx.cell? ⟨w.heap.size,a7,none⟩=some (.int .u32 x7)∧wx.cell? ⟨w.heap.size,a16,none⟩=some (.int .u32 x16)) (by kernel_rfl) (⟨b7,b16⟩) (fun zy=>?_)
  refine Tk 0 rfl zy ?_
  refine Tk 1 rfl zy ?_
  refine Tk 3 rfl zy ?_
  refine Tk 6 rfl zy ?_
  refine Tk 7 rfl zy ?_
  refine Tk 9 rfl zy ?_
  refine Tk 10 rfl zy ?_
  refine Tk 11 rfl zy ?_
  refine Tk 12 rfl zy ?_
  refine Tk 14 rfl zy ?_
  refine Tk 16 rfl zy ?_
  refine Tk 19 rfl zy ?_
  refine Tk 20 rfl zy ?_
  refine Tk 23 rfl zy ?_
  refine Tk 24 rfl zy ?_
  refine Tk 25 rfl zy ?_
  refine Tk 26 rfl zy ?_
  refine To 2 rfl fun K hK=>?_
  go_simp
  refine(Wh _ _).mono ?_
  rintro e w5 ⟨rfl,rfl⟩
  clear zy
  refine hK.out _ _ (fun _=>?_) (fun zy=>?_)
  ·exact⟨b7,b16⟩
  clear hK K;replace zy:=zy (by decide)
  try simp only[Act.put,zz1,zz2,zz3,zz4,zz5,zz6]
  refine To 4 rfl fun K hK=>?_
  go_simp
  refine(Wj _ _).mono ?_
  rintro e w5 ⟨rfl,rfl⟩
  clear zy
  refine hK.out _ _ (fun _=>?_) (fun zy=>?_)
  ·exact⟨b7,b16⟩
  clear hK K;replace zy:=zy (by decide)
  try simp only[Act.put,zz1,zz2,zz3,zz4,zz5,zz6]
  refine Tk 5 rfl zy ?_
  refine Tk 8 rfl zy ?_
  refine Tk 13 rfl zy ?_
  refine To 15 rfl fun K hK=>?_
  go_simp
  refine(Tc _ _).mono ?_
  rintro e w5 ⟨rfl,rfl⟩
  clear zy
  refine hK.out _ _ (fun _=>?_) (fun zy=>?_)
  ·exact⟨b7,b16⟩
  clear hK K;replace zy:=zy (by decide)
  try simp only[Act.put,zz1,zz2,zz3,zz4,zz5,zz6]
  refine To 17 rfl fun K hK=>?_
  go_simp
  refine(Wi _ _).mono ?_
  rintro e w5 ⟨rfl,rfl⟩
  clear zy
  refine hK.out _ _ (fun _=>?_) (fun zy=>?_)
  ·exact⟨b7,b16⟩
  clear hK K;replace zy:=zy (by decide)
  try simp only[Act.put,zz1,zz2,zz3,zz4,zz5,zz6]
  refine Tk 18 rfl zy ?_
  refine Tk 21 rfl zy ?_
  refine Tk 22 rfl zy ?_
  refine Tk 27 rfl zy ?_
  refine Tk 28 rfl zy ?_
  refine To 29 rfl fun K hK=>?_
  rw[if_pos (by rfl)]
  refine yq _ _ _ rfl w.heap.size k (.int .u32 (Rq x15 x2 x7 x16)) rfl rfl _ _ de se (by rw[tq,xV];omega) rfl fun w9 hW9 hg9=>?_
  refine Kz hK ?_
  clear hK K
  refine Wd ?_
  clear zy;have Sn:Below w.heap.size w w9:=qM.drew.drew.grown hg9 qM.size (by rintro q ⟨⟩;exact Nat.le_refl _)
  have Pt:Blk w9 w.heap.size 131 (wG (ye bs (k+1))):=by
   obtain⟨rfl,rfl,rfl,rfl⟩:=HJ.out;obtain⟨rfl,rfl,rfl,rfl⟩:=HX.out;rw[eL _ _ (by omega)]at hW9
   exact hW9
  clear hW9 hg9 de;go_wp2_with fail
  go_roundw
  case rel=>exact⟨k+1,by go_num,by omega,Pt,Sn⟩
  case measure=>simp[intOf];omega
 obtain rfl:k=64:=by omega
 rw[show((64:Nat):Int)=64 from rfl]at yy⊢;have wM:=hh.below qM;have Ie:=hKb.below qM;have d0:wr.cell? ⟨hg,0,none⟩=some (.int .u32 h0.a):=wM.cell 0 rfl;have d1:wr.cell? ⟨hg,1,none⟩=some (.int .u32 h0.b):=wM.cell 1 rfl;have d2:wr.cell? ⟨hg,2,none⟩=some (.int .u32 h0.c):=wM.cell 2 rfl;have d3:wr.cell? ⟨hg,3,none⟩=some (.int .u32 h0.d):=wM.cell 3 rfl;have d4:wr.cell? ⟨hg,4,none⟩=some (.int .u32 h0.e):=wM.cell 4 rfl;have d5:wr.cell? ⟨hg,5,none⟩=some (.int .u32 h0.f):=wM.cell 5 rfl;have d6:wr.cell? ⟨hg,6,none⟩=some (.int .u32 h0.g):=wM.cell 6 rfl;have d7:wr.cell? ⟨hg,7,none⟩=some (.int .u32 h0.h):=wM.cell 7 rfl;have HZ:=Hh qM.size;have I0:Hid (hg<w.heap.size∧kg<w.heap.size):=⟨hh.lt,hKb.lt⟩
 obtain⟨G,hG⟩:∃ G,wr.heap.size=G:=⟨_,rfl⟩
 have oJ:=Hh (Blk.new wr 120 h0.cells);rw[hG]at oJ;have Uz:=hW.alloc (.cells h0.cells 120);have yz:=qM.alloc qM.size (.cells h0.cells 120);have HG:=Hh hG;have MZ:Hid (w.heap.size<G):=by have:=hW.lt;rw[Hid];omega
 clear HN yy ZK wM hG;go_wp2_with fail
 rw[HG.out];go_loopw [98] (fun v98 wx=>∃ k:Nat,v98=.int .i64 (k:Int)∧k≤64∧Blk wx G 120 (vH KK (ye bs 64) h0 k).cells∧Blk wx w.heap.size 131 (wG (ye bs 64))∧Below w.heap.size w wx) (fun v98 _=>(64-intOf v98).toNat)
 case atStart=>exact⟨0,rfl,by omega,oJ.out,Uz,yz⟩
 case round =>
 clear Uz yz oJ d0 d1 d2 d3 d4 d5 d6 d7 hW Ie;obtain⟨k,rfl,ZK,hS,SJ,wJ⟩:=hrel
 by_cases yy:(k:Int)<64
 ·obtain⟨s,hs⟩:∃ s,vH KK (ye bs 64) h0 k=s:=⟨_,rfl⟩
  rw[hs]at hS;have oK:=Hh hs;clear hs;have c0:wr.cell? ⟨G,0,none⟩=some (.int .u32 s.a):=hS.cell 0 rfl;have c1:wr.cell? ⟨G,1,none⟩=some (.int .u32 s.b):=hS.cell 1 rfl;have c2:wr.cell? ⟨G,2,none⟩=some (.int .u32 s.c):=hS.cell 2 rfl;have c3:wr.cell? ⟨G,3,none⟩=some (.int .u32 s.d):=hS.cell 3 rfl;have c4:wr.cell? ⟨G,4,none⟩=some (.int .u32 s.e):=hS.cell 4 rfl;have c5:wr.cell? ⟨G,5,none⟩=some (.int .u32 s.f):=hS.cell 5 rfl;have c6:wr.cell? ⟨G,6,none⟩=some (.int .u32 s.g):=hS.cell 6 rfl;have c7:wr.cell? ⟨G,7,none⟩=some (.int .u32 s.h):=hS.cell 7 rfl;have ck:=(hKb.below wJ).cell k (vl _ _ (by have:=Hl.out;omega));have cw:=SJ.cell k (vl _ _ (by rw[xV];omega));obtain⟨xk,Sv⟩:∃ x,wS KK k=x:=⟨_,rfl⟩
  obtain⟨xw,fW⟩:∃ x,wS (ye bs 64) k=x:=⟨_,rfl⟩
  rw[Sv]at ck;rw[fW]at cw;have HX:=Hh (And.intro Sv fW);clear Sv fW;go_upto_region 13 with fail
  refine zn 6 (fun wx=>wx.cell? ⟨G,0,none⟩=some (.int .u32 s.a)∧wx.cell? ⟨G,4,none⟩=some (.int .u32 s.e)) (by kernel_rfl) (⟨c0,c4⟩) (fun zy=>?_)
  refine TkS 0 rfl zy ?_
  refine TkS 1 rfl zy ?_
  refine TkS 2 rfl zy ?_
  refine TkS 3 rfl zy ?_
  refine TkS 4 rfl zy ?_
  refine TkS 5 rfl zy ?_
  refine Wd ?_
  clear zy;go_upto_region 14 with fail
  refine zn 33 (fun wx=>wx.cell? ⟨G,7,none⟩=some (.int .u32 s.h)∧wx.cell? ⟨G,5,none⟩=some (.int .u32 s.f)∧wx.cell? ⟨G,6,none⟩=some (.int .u32 s.g)∧wx.cell? ⟨kg,k,none⟩=some (.int .u32 xk)∧wx.cell? ⟨w.heap.size,k,none⟩=some (.int .u32 xw)) (by kernel_rfl) (⟨c7,c5,c6,ck,cw⟩) (fun zy=>?_)
  refine TkS 0 rfl zy ?_
  refine TkS 1 rfl zy ?_
  refine TkS 2 rfl zy ?_
  refine TkS 4 rfl zy ?_
  refine TkS 7 rfl zy ?_
  refine TkS 11 rfl zy ?_
  refine TkS 12 rfl zy ?_
  refine TkS 13 rfl zy ?_
  refine TkS 14 rfl zy ?_
  refine TkS 15 rfl zy ?_
  refine TkS 16 rfl zy ?_
  refine TkS 17 rfl zy ?_
  refine TkS 18 rfl zy ?_
  refine TkS 19 rfl zy ?_
  refine TkS 20 rfl zy ?_
  refine TkS 22 rfl zy ?_
  refine TkS 23 rfl zy ?_
  refine TkS 24 rfl zy ?_
  refine TkS 25 rfl zy ?_
  refine TkS 26 rfl zy ?_
  refine TkS 28 rfl zy ?_
  refine TkS 29 rfl zy ?_
  refine TkS 30 rfl zy ?_
  refine To 3 rfl fun K hK=>?_
  go_simp
  refine(Tb _ _).mono ?_
  rintro e w5 ⟨rfl,rfl⟩
  clear zy
  refine hK.out _ _ (fun _=>?_) (fun zy=>?_)
  ·exact⟨c7,c5,c6,ck,cw⟩
  clear hK K;replace zy:=zy (by decide)
  try simp only[Act.put,zz1,zz2,zz3,zz4,zz5,zz6]
  refine To 5 rfl fun K hK=>?_
  go_simp
  refine(Wf _ _).mono ?_
  rintro e w5 ⟨rfl,rfl⟩
  clear zy
  refine hK.out _ _ (fun _=>?_) (fun zy=>?_)
  ·exact⟨c7,c5,c6,ck,cw⟩
  clear hK K;replace zy:=zy (by decide)
  try simp only[Act.put,zz1,zz2,zz3,zz4,zz5,zz6]
  refine TkS 6 rfl zy ?_
  refine To 8 rfl fun K hK=>?_
  go_simp
  refine(Wm _ _).mono ?_
  rintro e w5 ⟨rfl,rfl⟩
  clear zy
  refine hK.out _ _ (fun _=>?_) (fun zy=>?_)
  ·exact⟨c7,c5,c6,ck,cw⟩
  clear hK K;replace zy:=zy (by decide)
  try simp only[Act.put,zz1,zz2,zz3,zz4,zz5,zz6]
  refine TkS 9 rfl zy ?_
  refine TkS 10 rfl zy ?_
  refine TkS 21 rfl zy ?_
  refine TkS 27 rfl zy ?_
  refine TkS 31 rfl zy ?_
  refine TkS 32 rfl zy ?_
  refine Wd ?_
  clear zy;go_upto_region 15 with fail
  refine zn 25 (fun wx=>wx.cell? ⟨G,1,none⟩=some (.int .u32 s.b)∧wx.cell? ⟨G,2,none⟩=some (.int .u32 s.c)) (by kernel_rfl) (⟨c1,c2⟩) (fun zy=>?_)
  refine TkS 0 rfl zy ?_
  refine TkS 2 rfl zy ?_
  refine TkS 5 rfl zy ?_
  refine TkS 8 rfl zy ?_
  refine TkS 9 rfl zy ?_
  refine TkS 10 rfl zy ?_
  refine TkS 11 rfl zy ?_
  refine TkS 12 rfl zy ?_
  refine TkS 13 rfl zy ?_
  refine TkS 14 rfl zy ?_
  refine TkS 15 rfl zy ?_
  refine TkS 16 rfl zy ?_
  refine TkS 17 rfl zy ?_
  refine TkS 18 rfl zy ?_
  refine TkS 19 rfl zy ?_
  refine TkS 20 rfl zy ?_
  refine TkS 21 rfl zy ?_
  refine TkS 22 rfl zy ?_
  refine To 1 rfl fun K hK=>?_
  go_simp
  refine(Ta _ _).mono ?_
  rintro e w5 ⟨rfl,rfl⟩
  clear zy
  refine hK.out _ _ (fun _=>?_) (fun zy=>?_)
  ·exact⟨c1,c2⟩
  clear hK K;replace zy:=zy (by decide)
  try simp only[Act.put,zz1,zz2,zz3,zz4,zz5,zz6]
  refine To 3 rfl fun K hK=>?_
  go_simp
  refine(Wg _ _).mono ?_
  rintro e w5 ⟨rfl,rfl⟩
  clear zy
  refine hK.out _ _ (fun _=>?_) (fun zy=>?_)
  ·exact⟨c1,c2⟩
  clear hK K;replace zy:=zy (by decide)
  try simp only[Act.put,zz1,zz2,zz3,zz4,zz5,zz6]
  refine TkS 4 rfl zy ?_
  refine To 6 rfl fun K hK=>?_
  go_simp
  refine(Wl _ _).mono ?_
  rintro e w5 ⟨rfl,rfl⟩
  clear zy
  refine hK.out _ _ (fun _=>?_) (fun zy=>?_)
  ·exact⟨c1,c2⟩
  clear hK K;replace zy:=zy (by decide)
  try simp only[Act.put,zz1,zz2,zz3,zz4,zz5,zz6]
  refine TkS 7 rfl zy ?_
  refine TkS 23 rfl zy ?_
  refine TkS 24 rfl zy ?_
  refine Wd ?_
  clear zy;go_wp2_with (with_reducible refine zx ?_)
  refine zu rfl _ _ _ rfl rfl G (Yu s xk xw).cells rfl rfl _ _ hS l9 rfl (S8.one _) fun w9 hS9 hg9=>?_
  have Z9:Blk w9 G 120 (vH KK (ye bs 64) h0 (k+1)).cells:=by
   rw[vH,oK.out,HX.out.1,HX.out.2]
   exact hS9
  have Mx:w.heap.size<G:=MZ.out;have Ow:=SJ.drew.drew.drew.grown hg9 (by intro hc;injection hc;omega);have xY:=wJ.drew.drew.drew.grown hg9 wJ.size (by rintro q ⟨⟩;omega);clear hS9 hg9 hS SJ c0 c1 c2 c3 c4 c5 c6 c7 ck cw wJ Mx;go_wp2_with fail
  go_roundw
  case rel=>exact⟨k+1,by go_num,by omega,Z9,Ow,xY⟩
  case measure=>simp[intOf];omega
 obtain rfl:k=64:=by omega
 rw[show((64:Nat):Int)=64 from rfl]at yy⊢;obtain⟨s,hs⟩:∃ s,vH KK (ye bs 64) h0 64=s:=⟨_,rfl⟩
 rw[hs]at hS;have oK:=Hh hs;have iq:=hh.below wJ;have Mx:w.heap.size<G:=MZ.out;have Dp:hg<w.heap.size:=I0.out.1;clear hs yy ZK hKb SJ;go_wp2_with fail
 go_loopw [180] (fun v180 wx=>∃ k:Nat,v180=.int .i64 (k:Int)∧k≤8∧Blk wx hg 120 (wG (ie h0.list s.list k))∧Blk wx G 120 (wG s.list)∧w.grownBy wx (some hg)) (fun v180 _=>(8-intOf v180).toNat)
 case atStart=>exact⟨0,rfl,by omega,iq,hS,uy wJ _⟩
 case round =>
 clear iq hS wJ;obtain⟨k,rfl,Ka,cL,Ps,SN⟩:=hrel
 by_cases yy:(k:Int)<8
 ·have ch:=cL.drew.cell k (vl _ _ (by rw[ny];simp[S8.list];omega));have cs:=Ps.drew.cell k (vl _ _ (by simp[S8.list];omega));obtain⟨xh,QD⟩:∃ x,wS (ie h0.list s.list k) k=x:=⟨_,rfl⟩
  obtain⟨xs,Za⟩:∃ x,wS s.list k=x:=⟨_,rfl⟩
  rw[QD]at ch;rw[Za]at cs;have HX:=Hh (And.intro QD Za);clear QD Za;go_upto_region 21 with fail
  refine zn 11 (fun wx=>wx.cell? ⟨hg,k,none⟩=some (.int .u32 xh)∧wx.cell? ⟨G,k,none⟩=some (.int .u32 xs)) (by kernel_rfl) (⟨ch,cs⟩) (fun zy=>?_)
  refine Tk 0 rfl zy ?_
  refine Tk 1 rfl zy ?_
  refine Tk 2 rfl zy ?_
  refine Tk 3 rfl zy ?_
  refine Tk 4 rfl zy ?_
  refine Tk 5 rfl zy ?_
  refine Tk 6 rfl zy ?_
  refine Tk 7 rfl zy ?_
  refine Tk 8 rfl zy ?_
  refine Tk 9 rfl zy ?_
  refine Tk 10 rfl zy ?_
  refine To 11 rfl fun K hK=>?_
  rw[if_pos (by rfl)]
  refine yq _ _ _ rfl hg k (.int .u32 (IntKind.u32.wrap (xh+xs))) rfl rfl _ _ cL.drew se (by rw[tq,ny];simp[S8.list];omega) rfl fun w9 hh9 hg9=>?_
  refine Kz hK ?_
  clear hK K
  refine Wd ?_
  clear zy
  have P7:Blk w9 hg 120 (wG (ie h0.list s.list (k+1))):=by
   obtain⟨rfl,rfl⟩:=HX.out;rw[qU]at hh9
   exact hh9
  have Z9:=Ps.drew.grown hg9 (by intro hc;injection hc;omega);have u4:=sB (sA SN) hg9 (.inl rfl);clear hh9 hg9 ch cs cL Ps SN;go_wp2_with fail
  go_roundw
  case rel=>exact⟨k+1,by go_num,by omega,P7,Z9,u4⟩
  case measure=>simp[intOf];omega
 obtain rfl:k=8:=by omega
 rw[show((8:Nat):Int)=8 from rfl]at yy⊢;have hE:wG (ie h0.list s.list 8)=(rV KK h0 bs).cells:=by rw[rV,oK.out];rfl
 rw[hE]at cL;clear hE;go_wp2_with fail
 go_end0
 exact⟨⟨_,rfl⟩,cL,SN⟩
def pe (l:List Int):Array Value:=(l.map (Value.int .u64)).toArray
theorem jr (l:List Int):(pe l).size=l.length:=by simp[pe]
theorem bO (l:List Int) (i:Nat) (h:i<l.length):(pe l)[i]? = some (.int .u64 (wS l i)):=by
 simp[pe,wS,h]
theorem gi (l:List Int):(pe l).all (·.oneCell')=true:=by simp[pe,Value.oneCell']
def rx:List Int:=[4794697086780616226,8158064640168781261,13096744586834688815,16840607885511220156,4131703408338449720,6480981068601479193,10538285296894168987,12329834152419229976,15566598209576043074,1334009975649890238,2608012711638119052,6128411473006802146,8268148722764581231,9286055187155687089,11230858885718282805,13951009754708518548,16472876342353939154,17275323862435702243,1135362057144423861,2597628984639134821,3308224258029322869,5365058923640841347,6679025012923562964,8573033837759648693,10970295158949994411,12119686244451234320,12683024718118986047,13788192230050041572,14330467153632333762,15395433587784984357,489312712824947311,1452737877330783856,2861767655752347644,3322285676063803686,5560940570517711597,5996557281743188959,7280758554555802590,8532644243296465576,9350256976987008742,10552545826968843579,11727347734174303076,12113106623233404929,14000437183269869457,14369950271660146224,15101387698204529176,15463397548674623760,17586052441742319658,1182934255886127544,1847814050463011016,2177327727835720531,2830643537854262169,3796741975233480872,4115178125766777443,5681478168544905931,6601373596472566643,7507060721942968483,8399075790359081724,8693463985226723168,9568029438360202098,10144078919501101548,10430055236837252648,11840083180663258601,13761210420658862357,14299343276471374635,14566680578165727644,15097957966210449927,16922976911328602910,17689382322260857208,500013540394364858,748580250866718886,1242879168328830382,1977374033974150939,2944078676154940804,3659926193048069267,4368137639120453308,4836135668995329356,5532061633213252278,6448918945643986474,6902733635092675308,7801388544844847127]
def rG:List Int:=[7640891576956012808,13503953896175478587,4354685564936845355,11912009170470909681,5840696475078001361,11170449401992604703,2270897969802886507,6620516959819538809]
theorem pr:rx.length=80:=rfl
theorem Zn:rG.length=8:=rfl
def vC (x:Int):Int:=IntKind.u32.wrap (x/4294967296)
def xB:List Int:=rx.map vC
theorem cP (k:Nat) (h:k<80):wS xB k=vC (wS rx k):=by
 have h1:k<rx.length:=by rw[pr];exact h
 unfold wS xB
 rw[List.getD_eq_getElem?_getD,List.getD_eq_getElem?_getD,List.getElem?_map,List.getElem?_eq_getElem h1];rfl
theorem gn:(Tryz.prog.info? 141).map (·.size)=some 80:=by kernel_rfl
theorem Yj {P:Program}{ops:Array Oper}{Q:Exit→Act→World→Prop}{rest:List Oper}{a:Act}{w:World}{dst:Option Tmp}{ty:TypeId}{ps:Array (Nat×Operand)}{T:TypeId}{pos:String}{af:Array Edge}{g:Option (Nat×Bool)}
  (h:zU (wpList P ops Q (⟨dst,.build ty ps,T,pos,af,g⟩::rest) a w)):wpList P ops Q (⟨dst,.build ty ps,T,pos,af,g⟩::rest) a w:=h
theorem ez (w:World):Calls Tryz.prog 92 #[] w fun e w'=>e=.returned (.agg (pe rx))∧Below w.heap.size w w':=by
 have hB:=Blk.new w 141 (pe (List.replicate 80 0));have hb:=zl w (.cells (pe (List.replicate 80 0)) 141);go_enter Tryz.func92,Tryz.ntmps92
 go_wp2_with (with_reducible refine Yj ?_)
 refine wpList_buildTo rfl _ _ rfl _ rfl (pe rx) (by kernel_rfl) ?_
 go_wp2_with (with_reducible refine zx ?_)
 refine zu rfl _ _ _ rfl rfl w.heap.size (pe rx) rfl rfl _ _ hB gn (by simp[jr,pr]) (gi _) fun w2 vE hg2=>?_
 go_wp2_with fail
 refine xS rfl rfl vE rfl rfl gn rfl ?_
 exact⟨rfl,hb.grown hg2 hb.size (by rintro q ⟨⟩;exact Nat.le_refl _)⟩
theorem cu {H:Snap}{b off c:Nat}{bs:List UInt8}(hb:IsBytes H (some ⟨b,off,none⟩) c bs) (hl:bs.length=64) (h0:S8) (w:World) (hH:Holds w H) :
  Calls Tryz.prog 80 #[.agg h0.cells,.slice (some ⟨b,off,none⟩) 64 c] w fun e w'=>e=.returned (.agg (rV xB h0 bs).cells)∧Below w.heap.size w w':=by
 have HB:=Hh hb;have HL:=Hh hl;have kK:=Blk.new w 120 h0.cells;have jX:=Blk.new (w.alloc (.cells h0.cells 120)) 120 (wG (List.replicate 8 0));rw[zW]at jX;have yZ:=zl w (.cells h0.cells 120);have zP:=yZ.alloc yZ.size (.cells (wG (List.replicate 8 0)) 120);replace kK:=kK.alloc (.cells (wG (List.replicate 8 0)) 120);go_enter Tryz.func80,Tryz.ntmps80
 go_wp2_with fail
 refine(ez _).mono ?_
 rintro e w2 ⟨rfl,yz⟩
 have hC:=Blk.new w2 141 (pe (List.replicate 80 0));have vE:=(kK.below yz).alloc (.cells (pe (List.replicate 80 0)) 141);have VW:=(jX.below yz).alloc (.cells (pe (List.replicate 80 0)) 141);have nA:=(zP.trans (yz.mono zP.size)).alloc (Nat.le_trans zP.size yz.size) (.cells (pe (List.replicate 80 0)) 141);have J9:=(jX.below yz).lt;obtain⟨kg,J6⟩:∃ kg,w2.heap.size=kg:=⟨_,rfl⟩
 obtain⟨hg,J1⟩:∃ hg,w.heap.size=hg:=⟨_,rfl⟩
 rw[J6]at hC J9;rw[J1]at vE VW J9;have Jr:=Hh (And.intro J6 J1);clear yz yZ zP kK jX hb hl;have iW:=nA.size;have DV:=hC;clear J6 J1;go_wp2_with (with_reducible refine zx ?_)
 unfold zU
 rw[Jr.out.1,Jr.out.2]
 refine zu rfl _ _ _ rfl rfl kg (pe rx) rfl rfl _ _ hC gn (by simp[jr,pr]) (gi _) fun wq hKb hgq=>?_
 have hh:=vE.grown hgq (by intro hc;injection hc;omega);have hR:=VW.grown hgq (by intro hc;injection hc;omega);have lS:Below w.heap.size w wq:=nA.grown hgq nA.size (by rintro q ⟨⟩;have:=Jr.out;omega);have HH:=Hh (hH.below lS (Nat.le_refl _));have HN:=Hh (Blk.new wq 131 (wG (ye bs 0)));have CA:=Hh lS;have Hl:=Hh (show 64≤rx.length by rw[pr];omega);clear hC DV hgq vE VW nA hH iW lS J9;go_wp2_with fail
 go_loopw [18] (fun v18 wr=>∃ k:Nat,v18=.int .i64 (k:Int)∧k≤64∧Blk wr wq.heap.size 131 (wG (ye bs k))∧Below wq.heap.size wq wr) (fun v18 _=>(64-intOf v18).toNat)
 case atStart=>exact⟨0,rfl,by omega,HN.out,zl _ _⟩
 case round =>
 obtain⟨k,rfl,ZK,hW,qM⟩:=hrel
 by_cases yy:(k:Int)<64
 ·by_cases h16:(k:Int)<16
  ·obtain⟨j0,ZW⟩:∃ j,4*k=j:=⟨_,rfl⟩
   obtain⟨j1,Sr⟩:∃ j,4*k+1=j:=⟨_,rfl⟩
   obtain⟨j2,V7⟩:∃ j,4*k+2=j:=⟨_,rfl⟩
   obtain⟨j3,Pz⟩:∃ j,4*k+3=j:=⟨_,rfl⟩
   have W0:IntKind.i64.wrap (4*(k:Int))=(j0:Int):=by rw[← ZW];exact IntWalk.i64_in _ (by omega)
   have W1:IntKind.i64.wrap ((j0:Int)+1)=(j1:Int):=by rw[← Sr,← ZW];exact IntWalk.i64_in _ (by omega)
   have W2:IntKind.i64.wrap ((j0:Int)+2)=(j2:Int):=by rw[← V7,← ZW];exact IntWalk.i64_in _ (by omega)
   have W3:IntKind.i64.wrap ((j0:Int)+3)=(j3:Int):=by rw[← Pz,← ZW];exact IntWalk.i64_in _ (by omega)
   have l0:(j0:Int)<64:=by omega
   have l1:(j1:Int)<64:=by omega
   have l2:(j2:Int)<64:=by omega
   have l3:(j3:Int)<64:=by omega
   have b0:=uB HB.out j0 (by have:=HL.out;omega);have b1:=uB HB.out j1 (by have:=HL.out;omega);have b2:=uB HB.out j2 (by have:=HL.out;omega);have b3:=uB HB.out j3 (by have:=HL.out;omega);have HJ:=Hh (And.intro ZW (And.intro Sr (And.intro V7 Pz)));clear ZW Sr V7 Pz;have Rw:=Hh (HH.out.below qM (Nat.le_refl _));have de:=hW.drew;go_upto_region 7 with fail
   refine zn 35 (fun wx=>wx.cell? ⟨b,off+j0,none⟩=some (.int .u8 (uo bs j0))∧wx.cell? ⟨b,off+j1,none⟩=some (.int .u8 (uo bs j1))∧wx.cell? ⟨b,off+j2,none⟩=some (.int .u8 (uo bs j2))∧wx.cell? ⟨b,off+j3,none⟩=some (.int .u8 (uo bs j3))) (by kernel_rfl) (⟨Rw.out.drew.cell b0,Rw.out.drew.cell b1,Rw.out.drew.cell b2,Rw.out.drew.cell b3⟩) (fun zy=>?_)
   refine Tk 0 rfl zy ?_
   refine Tk 1 rfl zy ?_
   refine Tk 2 rfl zy ?_
   refine Tk 3 rfl zy ?_
   refine Tk 4 rfl zy ?_
   refine Tk 5 rfl zy ?_
   refine Tk 6 rfl zy ?_
   refine Tk 7 rfl zy ?_
   refine Tk 8 rfl zy ?_
   refine Tk 9 rfl zy ?_
   refine Tk 10 rfl zy ?_
   refine Tk 11 rfl zy ?_
   refine Tk 12 rfl zy ?_
   refine Tk 13 rfl zy ?_
   refine Tk 14 rfl zy ?_
   refine Tk 15 rfl zy ?_
   refine Tk 16 rfl zy ?_
   refine Tk 17 rfl zy ?_
   refine Tk 18 rfl zy ?_
   refine Tk 19 rfl zy ?_
   refine Tk 20 rfl zy ?_
   refine Tk 21 rfl zy ?_
   refine Tk 22 rfl zy ?_
   refine Tk 23 rfl zy ?_
   refine Tk 24 rfl zy ?_
   refine Tk 25 rfl zy ?_
   refine Tk 26 rfl zy ?_
   refine Tk 27 rfl zy ?_
   refine Tk 28 rfl zy ?_
   refine Tk 29 rfl zy ?_
   refine Tk 30 rfl zy ?_
   refine Tk 31 rfl zy ?_
   refine Tk 32 rfl zy ?_
   refine Tk 33 rfl zy ?_
   refine Tk 34 rfl zy ?_
   refine To 35 rfl fun K hK=>?_
   rw[if_pos (by rfl)]
   refine yq _ _ _ rfl wq.heap.size k (.int .u32 (Xo (uo bs j0) (uo bs j1) (uo bs j2) (uo bs j3))) rfl rfl _ _ de se (by rw[tq,xV];omega) rfl fun w9 hW9 hg9=>?_
   refine Kz hK ?_
   clear hK K
   refine Wd ?_
   clear zy;have Sn:Below wq.heap.size wq w9:=qM.drew.grown hg9 qM.size (by rintro q ⟨⟩;exact Nat.le_refl _)
   have Pt:Blk w9 wq.heap.size 131 (wG (ye bs (k+1))):=by
    obtain⟨rfl,rfl,rfl,rfl⟩:=HJ.out;rw[eM _ _ (by omega)]at hW9
    exact hW9
   clear hW9 hg9 de;go_wp2_with fail
   go_roundw
   case rel=>exact⟨k+1,by go_num,by omega,Pt,Sn⟩
   case measure=>simp[intOf];omega
  have Gv:16≤k:=by omega
  obtain⟨a15,ZE⟩:∃ j,k-15=j:=⟨_,rfl⟩
  obtain⟨a2,oX⟩:∃ j,k-2=j:=⟨_,rfl⟩
  obtain⟨a7,Pw⟩:∃ j,k-7=j:=⟨_,rfl⟩
  obtain⟨a16,ZF⟩:∃ j,k-16=j:=⟨_,rfl⟩
  have W15:IntKind.i64.wrap ((k:Int)-15)=(a15:Int):=by rw[← ZE,show((k-15:Nat):Int)=(k:Int)-15 by omega];exact IntWalk.i64_in _ (by omega)
  have W2:IntKind.i64.wrap ((k:Int)-2)=(a2:Int):=by rw[← oX,show((k-2:Nat):Int)=(k:Int)-2 by omega];exact IntWalk.i64_in _ (by omega)
  have W7:IntKind.i64.wrap ((k:Int)-7)=(a7:Int):=by rw[← Pw,show((k-7:Nat):Int)=(k:Int)-7 by omega];exact IntWalk.i64_in _ (by omega)
  have W16:IntKind.i64.wrap ((k:Int)-16)=(a16:Int):=by rw[← ZF,show((k-16:Nat):Int)=(k:Int)-16 by omega];exact IntWalk.i64_in _ (by omega)
  have l15:(a15:Int)<64:=by omega
  have l2:(a2:Int)<64:=by omega
  have l7:(a7:Int)<64:=by omega
  have l16:(a16:Int)<64:=by omega
  have de:=hW.drew;have b15:=de.cell a15 (vl _ _ (by rw[xV];omega));have b2:=de.cell a2 (vl _ _ (by rw[xV];omega));have b7:=de.cell a7 (vl _ _ (by rw[xV];omega));have b16:=de.cell a16 (vl _ _ (by rw[xV];omega));have HJ:=Hh (And.intro ZE (And.intro oX (And.intro Pw ZF)));obtain⟨x15,ZM⟩:∃ x,wS (ye bs k) a15=x:=⟨_,rfl⟩
  obtain⟨x2,fV⟩:∃ x,wS (ye bs k) a2=x:=⟨_,rfl⟩
  obtain⟨x7,ZZ⟩:∃ x,wS (ye bs k) a7=x:=⟨_,rfl⟩
  obtain⟨x16,ZN⟩:∃ x,wS (ye bs k) a16=x:=⟨_,rfl⟩
  rw[ZM]at b15;rw[fV]at b2;rw[ZZ]at b7;rw[ZN]at b16;have HX:=Hh (And.intro ZM (And.intro fV (And.intro ZZ ZN)));clear ZE oX Pw ZF ZM fV ZZ ZN;go_upto_region 8 with fail
  refine zn 10 (fun wx=>wx.cell? ⟨wq.heap.size,a15,none⟩=some (.int .u32 x15)∧wx.cell? ⟨wq.heap.size,a2,none⟩=some (.int .u32 x2)) (by kernel_rfl) (⟨b15,b2⟩) (fun zy=>?_)
  refine TkS 0 rfl zy ?_
  refine TkS 1 rfl zy ?_
  refine TkS 2 rfl zy ?_
  refine TkS 3 rfl zy ?_
  refine TkS 4 rfl zy ?_
  refine TkS 5 rfl zy ?_
  refine TkS 6 rfl zy ?_
  refine TkS 7 rfl zy ?_
  refine TkS 8 rfl zy ?_
  refine TkS 9 rfl zy ?_
  refine Wd ?_
  clear zy;go_upto_region 9 with fail
  refine zn 29 (fun wx=>wx.cell? ⟨wq.heap.size,a7,none⟩=some (.int .u32 x7)∧wx.cell? ⟨wq.heap.size,a16,none⟩=some (.int .u32 x16)) (by kernel_rfl) (⟨b7,b16⟩) (fun zy=>?_)
  refine Tk 0 rfl zy ?_
  refine Tk 1 rfl zy ?_
  refine Tk 3 rfl zy ?_
  refine Tk 6 rfl zy ?_
  refine Tk 7 rfl zy ?_
  refine Tk 9 rfl zy ?_
  refine Tk 10 rfl zy ?_
  refine Tk 11 rfl zy ?_
  refine Tk 12 rfl zy ?_
  refine Tk 14 rfl zy ?_
  refine Tk 16 rfl zy ?_
  refine Tk 19 rfl zy ?_
  refine Tk 20 rfl zy ?_
  refine Tk 23 rfl zy ?_
  refine Tk 24 rfl zy ?_
  refine Tk 25 rfl zy ?_
  refine Tk 26 rfl zy ?_
  refine To 2 rfl fun K hK=>?_
  go_simp
  refine(WU _ _).mono ?_
  rintro e w5 ⟨rfl,rfl⟩
  clear zy
  refine hK.out _ _ (fun _=>?_) (fun zy=>?_)
  ·exact⟨b7,b16⟩
  clear hK K;replace zy:=zy (by decide)
  try simp only[Act.put,zz1,zz2,zz3,zz4,zz5,zz6]
  refine To 4 rfl fun K hK=>?_
  go_simp
  refine(WX _ _).mono ?_
  rintro e w5 ⟨rfl,rfl⟩
  clear zy
  refine hK.out _ _ (fun _=>?_) (fun zy=>?_)
  ·exact⟨b7,b16⟩
  clear hK K;replace zy:=zy (by decide)
  try simp only[Act.put,zz1,zz2,zz3,zz4,zz5,zz6]
  refine Tk 5 rfl zy ?_
  refine Tk 8 rfl zy ?_
  refine Tk 13 rfl zy ?_
  refine To 15 rfl fun K hK=>?_
  go_simp
  refine(TX _ _).mono ?_
  rintro e w5 ⟨rfl,rfl⟩
  clear zy
  refine hK.out _ _ (fun _=>?_) (fun zy=>?_)
  ·exact⟨b7,b16⟩
  clear hK K;replace zy:=zy (by decide)
  try simp only[Act.put,zz1,zz2,zz3,zz4,zz5,zz6]
  refine To 17 rfl fun K hK=>?_
  go_simp
  refine(WV _ _).mono ?_
  rintro e w5 ⟨rfl,rfl⟩
  clear zy
  refine hK.out _ _ (fun _=>?_) (fun zy=>?_)
  ·exact⟨b7,b16⟩
  clear hK K;replace zy:=zy (by decide)
  try simp only[Act.put,zz1,zz2,zz3,zz4,zz5,zz6]
  refine Tk 18 rfl zy ?_
  refine Tk 21 rfl zy ?_
  refine Tk 22 rfl zy ?_
  refine Tk 27 rfl zy ?_
  refine Tk 28 rfl zy ?_
  refine To 29 rfl fun K hK=>?_
  rw[if_pos (by rfl)]
  refine yq _ _ _ rfl wq.heap.size k (.int .u32 (Rq x15 x2 x7 x16)) rfl rfl _ _ de se (by rw[tq,xV];omega) rfl fun w9 hW9 hg9=>?_
  refine Kz hK ?_
  clear hK K
  refine Wd ?_
  clear zy;have Sn:Below wq.heap.size wq w9:=qM.drew.drew.grown hg9 qM.size (by rintro q ⟨⟩;exact Nat.le_refl _)
  have Pt:Blk w9 wq.heap.size 131 (wG (ye bs (k+1))):=by
   obtain⟨rfl,rfl,rfl,rfl⟩:=HJ.out;obtain⟨rfl,rfl,rfl,rfl⟩:=HX.out;rw[eL _ _ (by omega)]at hW9
   exact hW9
  clear hW9 hg9 de;go_wp2_with fail
  go_roundw
  case rel=>exact⟨k+1,by go_num,by omega,Pt,Sn⟩
  case measure=>simp[intOf];omega
 obtain rfl:k=64:=by omega
 rw[show((64:Nat):Int)=64 from rfl]at yy⊢;have wM:=hh.below qM;have Ie:=hKb.below qM;have d0:wr.cell? ⟨hg,0,none⟩=some (.int .u32 h0.a):=wM.cell 0 rfl;have d1:wr.cell? ⟨hg,1,none⟩=some (.int .u32 h0.b):=wM.cell 1 rfl;have d2:wr.cell? ⟨hg,2,none⟩=some (.int .u32 h0.c):=wM.cell 2 rfl;have d3:wr.cell? ⟨hg,3,none⟩=some (.int .u32 h0.d):=wM.cell 3 rfl;have d4:wr.cell? ⟨hg,4,none⟩=some (.int .u32 h0.e):=wM.cell 4 rfl;have d5:wr.cell? ⟨hg,5,none⟩=some (.int .u32 h0.f):=wM.cell 5 rfl;have d6:wr.cell? ⟨hg,6,none⟩=some (.int .u32 h0.g):=wM.cell 6 rfl;have d7:wr.cell? ⟨hg,7,none⟩=some (.int .u32 h0.h):=wM.cell 7 rfl;have HZ:=Hh qM.size;have I0:Hid (hg<wq.heap.size∧kg<wq.heap.size):=⟨hh.lt,hKb.lt⟩
 obtain⟨G,hG⟩:∃ G,wr.heap.size=G:=⟨_,rfl⟩
 have oJ:=Hh (Blk.new wr 120 h0.cells);rw[hG]at oJ;have Uz:=hW.alloc (.cells h0.cells 120);have yz:=qM.alloc qM.size (.cells h0.cells 120);have HG:=Hh hG;have MZ:Hid (wq.heap.size<G):=by have:=hW.lt;rw[Hid];omega
 clear HN yy ZK wM hG;go_wp2_with fail
 rw[HG.out];go_loopw [97] (fun v97 wx=>∃ k:Nat,v97=.int .i64 (k:Int)∧k≤64∧Blk wx G 120 (vH xB (ye bs 64) h0 k).cells∧Blk wx wq.heap.size 131 (wG (ye bs 64))∧Below wq.heap.size wq wx) (fun v97 _=>(64-intOf v97).toNat)
 case atStart=>exact⟨0,rfl,by omega,oJ.out,Uz,yz⟩
 case round =>
 clear Uz yz oJ d0 d1 d2 d3 d4 d5 d6 d7 hW Ie;obtain⟨k,rfl,ZK,hS,SJ,wJ⟩:=hrel
 by_cases yy:(k:Int)<64
 ·obtain⟨s,hs⟩:∃ s,vH xB (ye bs 64) h0 k=s:=⟨_,rfl⟩
  rw[hs]at hS;have oK:=Hh hs;clear hs;have c0:wr.cell? ⟨G,0,none⟩=some (.int .u32 s.a):=hS.cell 0 rfl;have c1:wr.cell? ⟨G,1,none⟩=some (.int .u32 s.b):=hS.cell 1 rfl;have c2:wr.cell? ⟨G,2,none⟩=some (.int .u32 s.c):=hS.cell 2 rfl;have c3:wr.cell? ⟨G,3,none⟩=some (.int .u32 s.d):=hS.cell 3 rfl;have c4:wr.cell? ⟨G,4,none⟩=some (.int .u32 s.e):=hS.cell 4 rfl;have c5:wr.cell? ⟨G,5,none⟩=some (.int .u32 s.f):=hS.cell 5 rfl;have c6:wr.cell? ⟨G,6,none⟩=some (.int .u32 s.g):=hS.cell 6 rfl;have c7:wr.cell? ⟨G,7,none⟩=some (.int .u32 s.h):=hS.cell 7 rfl;have ck:=(hKb.below wJ).cell k (bO _ _ (by have:=Hl.out;omega));have cw:=SJ.cell k (vl _ _ (by rw[xV];omega));have Be:(k:Int)<80:=by omega
  obtain⟨xk,Sv⟩:∃ x,wS rx k=x:=⟨_,rfl⟩
  obtain⟨xw,fW⟩:∃ x,wS (ye bs 64) k=x:=⟨_,rfl⟩
  rw[Sv]at ck;rw[fW]at cw;have HX:=Hh (And.intro Sv fW);clear Sv fW;go_upto_region 15 with fail
  refine zn 6 (fun wx=>wx.cell? ⟨G,0,none⟩=some (.int .u32 s.a)∧wx.cell? ⟨G,4,none⟩=some (.int .u32 s.e)) (by kernel_rfl) (⟨c0,c4⟩) (fun zy=>?_)
  refine TkS 0 rfl zy ?_
  refine TkS 1 rfl zy ?_
  refine TkS 2 rfl zy ?_
  refine TkS 3 rfl zy ?_
  refine TkS 4 rfl zy ?_
  refine TkS 5 rfl zy ?_
  refine Wd ?_
  clear zy;go_upto_region 16 with fail
  refine zn 33 (fun wx=>wx.cell? ⟨G,7,none⟩=some (.int .u32 s.h)∧wx.cell? ⟨G,5,none⟩=some (.int .u32 s.f)∧wx.cell? ⟨G,6,none⟩=some (.int .u32 s.g)∧wx.cell? ⟨kg,k,none⟩=some (.int .u64 xk)∧wx.cell? ⟨wq.heap.size,k,none⟩=some (.int .u32 xw)) (by kernel_rfl) (⟨c7,c5,c6,ck,cw⟩) (fun zy=>?_)
  refine TkS 0 rfl zy ?_
  refine TkS 1 rfl zy ?_
  refine TkS 2 rfl zy ?_
  refine TkS 4 rfl zy ?_
  refine TkS 7 rfl zy ?_
  refine TkS 11 rfl zy ?_
  refine TkS 12 rfl zy ?_
  refine TkS 13 rfl zy ?_
  refine TkS 14 rfl zy ?_
  refine TkS 15 rfl zy ?_
  refine TkS 16 rfl zy ?_
  refine TkS 17 rfl zy ?_
  refine TkS 18 rfl zy ?_
  refine TkS 19 rfl zy ?_
  refine TkS 20 rfl zy ?_
  refine TkS 22 rfl zy ?_
  refine TkS 23 rfl zy ?_
  refine TkS 24 rfl zy ?_
  refine TkS 25 rfl zy ?_
  refine TkS 26 rfl zy ?_
  refine TkS 28 rfl zy ?_
  refine TkS 29 rfl zy ?_
  refine TkS 30 rfl zy ?_
  refine To 3 rfl fun K hK=>?_
  go_simp
  refine(TW _ _).mono ?_
  rintro e w5 ⟨rfl,rfl⟩
  clear zy
  refine hK.out _ _ (fun _=>?_) (fun zy=>?_)
  ·exact⟨c7,c5,c6,ck,cw⟩
  clear hK K;replace zy:=zy (by decide)
  try simp only[Act.put,zz1,zz2,zz3,zz4,zz5,zz6]
  refine To 5 rfl fun K hK=>?_
  go_simp
  refine(WS _ _).mono ?_
  rintro e w5 ⟨rfl,rfl⟩
  clear zy
  refine hK.out _ _ (fun _=>?_) (fun zy=>?_)
  ·exact⟨c7,c5,c6,ck,cw⟩
  clear hK K;replace zy:=zy (by decide)
  try simp only[Act.put,zz1,zz2,zz3,zz4,zz5,zz6]
  refine TkS 6 rfl zy ?_
  refine To 8 rfl fun K hK=>?_
  go_simp
  refine(WZ _ _).mono ?_
  rintro e w5 ⟨rfl,rfl⟩
  clear zy
  refine hK.out _ _ (fun _=>?_) (fun zy=>?_)
  ·exact⟨c7,c5,c6,ck,cw⟩
  clear hK K;replace zy:=zy (by decide)
  try simp only[Act.put,zz1,zz2,zz3,zz4,zz5,zz6]
  refine TkS 9 rfl zy ?_
  refine TkS 10 rfl zy ?_
  refine TkS 21 rfl zy ?_
  refine TkS 27 rfl zy ?_
  refine TkS 31 rfl zy ?_
  refine TkS 32 rfl zy ?_
  refine Wd ?_
  clear zy;obtain⟨xu,Jb⟩:∃ x,IntKind.u32.wrap (xk/4294967296)=x:=⟨_,rfl⟩
  rw[Jb];have Mo:=Hh Jb;clear Jb;go_upto_region 17 with fail
  refine zn 25 (fun wx=>wx.cell? ⟨G,1,none⟩=some (.int .u32 s.b)∧wx.cell? ⟨G,2,none⟩=some (.int .u32 s.c)) (by kernel_rfl) (⟨c1,c2⟩) (fun zy=>?_)
  refine TkS 0 rfl zy ?_
  refine TkS 2 rfl zy ?_
  refine TkS 5 rfl zy ?_
  refine TkS 8 rfl zy ?_
  refine TkS 9 rfl zy ?_
  refine TkS 10 rfl zy ?_
  refine TkS 11 rfl zy ?_
  refine TkS 12 rfl zy ?_
  refine TkS 13 rfl zy ?_
  refine TkS 14 rfl zy ?_
  refine TkS 15 rfl zy ?_
  refine TkS 16 rfl zy ?_
  refine TkS 17 rfl zy ?_
  refine TkS 18 rfl zy ?_
  refine TkS 19 rfl zy ?_
  refine TkS 20 rfl zy ?_
  refine TkS 21 rfl zy ?_
  refine TkS 22 rfl zy ?_
  refine To 1 rfl fun K hK=>?_
  go_simp
  refine(TV _ _).mono ?_
  rintro e w5 ⟨rfl,rfl⟩
  clear zy
  refine hK.out _ _ (fun _=>?_) (fun zy=>?_)
  ·exact⟨c1,c2⟩
  clear hK K;replace zy:=zy (by decide)
  try simp only[Act.put,zz1,zz2,zz3,zz4,zz5,zz6]
  refine To 3 rfl fun K hK=>?_
  go_simp
  refine(WT _ _).mono ?_
  rintro e w5 ⟨rfl,rfl⟩
  clear zy
  refine hK.out _ _ (fun _=>?_) (fun zy=>?_)
  ·exact⟨c1,c2⟩
  clear hK K;replace zy:=zy (by decide)
  try simp only[Act.put,zz1,zz2,zz3,zz4,zz5,zz6]
  refine TkS 4 rfl zy ?_
  refine To 6 rfl fun K hK=>?_
  go_simp
  refine(WY _ _).mono ?_
  rintro e w5 ⟨rfl,rfl⟩
  clear zy
  refine hK.out _ _ (fun _=>?_) (fun zy=>?_)
  ·exact⟨c1,c2⟩
  clear hK K;replace zy:=zy (by decide)
  try simp only[Act.put,zz1,zz2,zz3,zz4,zz5,zz6]
  refine TkS 7 rfl zy ?_
  refine TkS 23 rfl zy ?_
  refine TkS 24 rfl zy ?_
  refine Wd ?_
  clear zy;go_wp2_with (with_reducible refine zx ?_)
  refine zu rfl _ _ _ rfl rfl G (Yu s xu xw).cells rfl rfl _ _ hS l9 rfl (S8.one _) fun w9 hS9 hg9=>?_
  have Z9:Blk w9 G 120 (vH xB (ye bs 64) h0 (k+1)).cells:=by
   rw[vH,oK.out,cP _ (by omega),vC,HX.out.1,HX.out.2,Mo.out]
   exact hS9
  have Mx:wq.heap.size<G:=MZ.out;have Ow:=SJ.drew.drew.drew.grown hg9 (by intro hc;injection hc;omega);have xY:=wJ.drew.drew.drew.grown hg9 wJ.size (by rintro q ⟨⟩;omega);clear hS9 hg9 hS SJ c0 c1 c2 c3 c4 c5 c6 c7 ck cw wJ Mx;go_wp2_with fail
  go_roundw
  case rel=>exact⟨k+1,by go_num,by omega,Z9,Ow,xY⟩
  case measure=>simp[intOf];omega
 obtain rfl:k=64:=by omega
 rw[show((64:Nat):Int)=64 from rfl]at yy⊢;obtain⟨s,hs⟩:∃ s,vH xB (ye bs 64) h0 64=s:=⟨_,rfl⟩
 rw[hs]at hS;have oK:=Hh hs;have iq:=hh.below wJ;have Mx:wq.heap.size<G:=MZ.out;have Dp:hg<wq.heap.size:=I0.out.1;clear hs yy ZK hKb SJ;go_wp2_with fail
 go_loopw [179] (fun v179 wx=>∃ k:Nat,v179=.int .i64 (k:Int)∧k≤8∧Blk wx hg 120 (wG (ie h0.list s.list k))∧Blk wx G 120 (wG s.list)∧wq.grownBy wx (some hg)) (fun v179 _=>(8-intOf v179).toNat)
 case atStart=>exact⟨0,rfl,by omega,iq,hS,uy wJ _⟩
 case round =>
 clear iq hS wJ;obtain⟨k,rfl,Ka,cL,Ps,SN⟩:=hrel
 by_cases yy:(k:Int)<8
 ·have ch:=cL.drew.cell k (vl _ _ (by rw[ny];simp[S8.list];omega));have cs:=Ps.drew.cell k (vl _ _ (by simp[S8.list];omega));obtain⟨xh,QD⟩:∃ x,wS (ie h0.list s.list k) k=x:=⟨_,rfl⟩
  obtain⟨xs,Za⟩:∃ x,wS s.list k=x:=⟨_,rfl⟩
  rw[QD]at ch;rw[Za]at cs;have HX:=Hh (And.intro QD Za);clear QD Za;go_upto_region 23 with fail
  refine zn 8 (fun wx=>wx.cell? ⟨hg,k,none⟩=some (.int .u32 xh)∧wx.cell? ⟨G,k,none⟩=some (.int .u32 xs)) (by kernel_rfl) (⟨ch,cs⟩) (fun zy=>?_)
  refine Tk 0 rfl zy ?_
  refine Tk 1 rfl zy ?_
  refine Tk 2 rfl zy ?_
  refine Tk 3 rfl zy ?_
  refine Tk 4 rfl zy ?_
  refine Tk 5 rfl zy ?_
  refine Tk 6 rfl zy ?_
  refine Tk 7 rfl zy ?_
  refine To 8 rfl fun K hK=>?_
  rw[if_pos (by rfl)]
  refine yq _ _ _ rfl hg k (.int .u32 (IntKind.u32.wrap (xh+xs))) rfl rfl _ _ cL.drew se (by rw[tq,ny];simp[S8.list];omega) rfl fun w9 hh9 hg9=>?_
  refine Kz hK ?_
  clear hK K
  refine Wd ?_
  clear zy
  have P7:Blk w9 hg 120 (wG (ie h0.list s.list (k+1))):=by
   obtain⟨rfl,rfl⟩:=HX.out;rw[qU]at hh9
   exact hh9
  have Z9:=Ps.drew.grown hg9 (by intro hc;injection hc;omega);have u4:=sB (sA SN) hg9 (.inl rfl);clear hh9 hg9 ch cs cL Ps SN;go_wp2_with fail
  go_roundw
  case rel=>exact⟨k+1,by go_num,by omega,P7,Z9,u4⟩
  case measure=>simp[intOf];omega
 obtain rfl:k=8:=by omega
 rw[show((8:Nat):Int)=8 from rfl]at yy⊢;have hE:wG (ie h0.list s.list 8)=(rV xB h0 bs).cells:=by rw[rV,oK.out];rfl
 rw[hE]at cL;clear hE;have Df:=(hR.below (Below.refl _ _)).grown SN (by intro hc;injection hc;omega);have l0:=cL.cell 0 rfl;have l1:=cL.cell 1 rfl;have l2:=cL.cell 2 rfl;have l3:=cL.cell 3 rfl;have l4:=cL.cell 4 rfl;have l5:=cL.cell 5 rfl;have l6:=cL.cell 6 rfl;have l7:=cL.cell 7 rfl;go_wp2_with (with_reducible refine zx ?_)
 refine zu rfl _ _ _ rfl rfl (hg+1) (rV xB h0 bs).cells rfl rfl _ _ Df l9 rfl (S8.one _) fun wz hRz z8=>?_
 clear l0 l1 l2 l3 l4 l5 l6 l7
 have yX:Below w.heap.size w wz:=by
  have e1:=CA.out;have e2:=Jr.out.2
  exact(e1.grown SN e1.size (by rintro q ⟨⟩;omega)).grown z8 (Nat.le_trans e1.size SN.size) (by rintro q ⟨⟩;omega)
 go_wp2_with fail
 refine xS rfl rfl hRz rfl rfl l9 rfl ?_
 exact⟨rfl,yX⟩
def Yx:S8:=⟨vC 7640891576956012808,vC 13503953896175478587,vC 4354685564936845355,vC 11912009170470909681,vC 5840696475078001361,vC 11170449401992604703,vC 2270897969802886507,vC 6620516959819538809⟩
def be (m:List UInt8) (k:Nat):List UInt8:=(m.drop (64*k)).take 64
def oV (m:List UInt8):Nat→S8
 | 0=>Yx
 | k+1=>rV xB (oV m k) (be m k)
def hJ (x:Int) (d:Int):UInt8:=UInt8.ofNat (x/d%256).toNat
def ue (x:Int):List UInt8:=[hJ x 16777216,hJ x 65536,hJ x 256,hJ x 1]
def pf (l:List UInt8):List UInt8:=(oV (u6 l) ((u6 l).length/64)).list.flatMap ue
theorem Vi (x d:Int):zg (hJ x d)=.int .u8 (IntKind.u8.wrap (x/d)):=by
 have h:((x/d%256).toNat:Int)=x/d%256:=Int.toNat_of_nonneg (Int.emod_nonneg _ (by decide));have h2:(x/d%256).toNat<256:=by have:=Int.emod_lt_of_pos (x/d) (show(0:Int)<256 by decide);omega
 rw[zg,hJ,UInt8.toNat_ofNat',Nat.mod_eq_of_lt h2,h];rfl
theorem tT (l:List UInt8):(pf l).length=32:=rfl
theorem aa {m:List UInt8}{k:Nat}(h:64*k+64≤m.length):(be m k).length=64:=by
 rw[be,List.length_take,List.length_drop]
 omega
def kP:Nat→List Int
 | 0=>List.replicate 64 0
 | k+1=>(kP k).set k (wS xB k)
theorem Tq:∀ k,(kP k).length=64
 | 0=>rfl
 | k+1=>by rw[kP,List.length_set,Tq k]
def KK:List Int:=xB.take 64
theorem O9:KK.length=64:=rfl
theorem L8:kP 64=KK:=by kernel_rfl
theorem Vd:((List.range 64).all fun i=>decide (vC ((xr (qW.take 64) i:Nat):Int)=wS xB i))=true:=by kernel_rfl
theorem T6 {i:Nat}(h:i<64):vC ((xr (qW.take 64) i:Nat):Int)=wS xB i:=by
 have h1:=Vd;rw[List.all_eq_true]at h1
 exact of_decide_eq_true (h1 i (List.mem_range.2 h))
def hP8:Nat→List Int
 | 0=>List.replicate 8 0
 | k+1=>(hP8 k).set k (vC ((xr uk k:Nat):Int))
theorem Xa:∀ k,(hP8 k).length=8
 | 0=>rfl
 | k+1=>by rw[hP8,List.length_set,Xa k]
theorem L0:hP8 8=Yx.list:=by kernel_rfl
def iP8:Nat→List Int
 | 0=>List.replicate 8 0
 | k+1=>(iP8 k).set k (vC (wS rG k))
theorem Xb:∀ k,(iP8 k).length=8
 | 0=>rfl
 | k+1=>by rw[iP8,List.length_set,Xb k]
theorem L6:iP8 8=Yx.list:=by kernel_rfl
theorem O8 {i:Nat}(h:i<64):wS KK i=wS xB i:=by
 unfold wS KK
 rw[List.getD_eq_getElem?_getD,List.getD_eq_getElem?_getD,List.getElem?_take,if_pos h]
theorem mU {K K' W:List Int}{h:S8}:∀ n,(∀ i,i<n→wS K i=wS K' i)→vH K W h n=vH K' W h n
 | 0,_=>rfl
 | n+1,hn=>by rw[vH,vH,mU n (fun i hi=>hn i (by omega)),hn n (by omega)]
theorem Vg (h:S8) (bs:List UInt8):rV KK h bs=rV xB h bs:=by
 unfold rV
 rw[mU 64 (fun i hi=>O8 hi)]
theorem fv (m:List UInt8) (k:Nat):oV m (k+1)=rV xB (oV m k) (be m k):=rfl
def dW (s:S8) (i:Nat):List UInt8:=(s.list.take i).flatMap ue
theorem U5 (s:S8):dW s 8=s.list.flatMap ue:=by rw[dW,List.take_of_length_le (by rw[S8.list];simp)]
theorem xG (x:Int):(ue x).length=4:=rfl
theorem bA (s:S8) (i:Nat) (h:i≤8):(dW s i).length=4*i:=by
 obtain rfl | rfl | rfl | rfl | rfl | rfl | rfl | rfl | rfl:i=0∨i=1∨i=2∨i=3∨i=4∨i=5∨i=6∨i=7∨i=8:=by omega
 all_goals rfl
theorem eF (s:S8) (i:Nat) (h:i<8):dW s i++ue (wS s.list i)=dW s (i+1):=by
 have hl:i<s.list.length:=by rw[S8.list];exact h
 rw[dW,dW,List.take_succ_eq_append_getElem hl,List.flatMap_append,List.flatMap_singleton]
 unfold wS
 rw[List.getD_eq_getElem?_getD,List.getElem?_eq_getElem hl];rfl
theorem nF (x d:Int):zg (hJ x d)=.int .u8 (x/d%256):=by
 rw[Vi,IntKind.wrap_u8]
theorem yD (x:Int):(ue x).map zg=[.int .u8 (x/16777216%256),.int .u8 (x/65536%256),.int .u8 (x/256%256),.int .u8 (x%256)]:=by
 simp only[ue,List.map_cons,List.map_nil]
 rw[nF,nF,nF,nF,Int.ediv_one]
end Go.Proofs.YtjpcnhncoidliaaGreatDoor
