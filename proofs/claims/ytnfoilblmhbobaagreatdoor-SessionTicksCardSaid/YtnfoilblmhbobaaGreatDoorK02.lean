/- squeezed. Walks: the library's word at a sli -/
import Derived.Test.YtnfoilblmhbobaaGreatDoorK01
import Derived.Shelf.Unicode.ValidAny
import Derived.Deep.QuietTactic
set_option linter.unusedVariables false
set_option linter.unusedSimpArgs false
set_option maxRecDepth 100000
set_option maxHeartbeats 8000000
namespace Go.Proofs.YtnfoilblmhbobaaGreatDoor
open Go.RowKit
def SB (H:Snap) (A:Option Addr) (t:ByteArray):Prop:=0<t.size→∃ b off,A=some ⟨b,off,none⟩∧∀ j,j<t.size→H.cell? ⟨b,off+j,none⟩=some (.int .u8 ((t.get! j).toNat:Int))
theorem bF (l:List UInt8):(⟨l.toArray⟩:ByteArray).data.toList=l:=by simp
theorem Yt (l:List UInt8) (j:Nat) (h:j<l.length):(⟨l.toArray⟩:ByteArray).get! j=l[j]:=by
 show l.toArray[j]! = l[j]
 rw[getElem!_pos l.toArray j (by simpa using h)]
 simp
theorem SB.of {H:Snap}{A:Option Addr}{c:Nat}{l:List UInt8}(h:IsBytes H A c l):SB H A ⟨l.toArray⟩:=fun h0=>by
 have hl:(⟨l.toArray⟩:ByteArray).size=l.length:=by show l.toArray.size=l.length;simp
 rw[hl]at h0;obtain⟨b,off,e,hc⟩:=h.at_ h0
 refine⟨b,off,e,fun j hj=>?_⟩
 rw[hl]at hj;rw[hc j hj,Yt l j hj]
theorem wm {H:Snap}{A:Option Addr}{t:ByteArray}(hs:SB H A t) (h8:8≤t.size) (c:Nat) (w:World) (hH:Holds w H) :
  Calls Tryz.prog 59 #[.slice A t.size c] w fun e w'=>e=.returned (.int .u64 ((Lib.leNat [t.get! 0,t.get! 1,t.get! 2,t.get! 3,t.get! 4,t.get! 5,t.get! 6,t.get! 7]:Nat):Int))∧∃ q,w'=w.drewN q:=by
 obtain⟨b,off,rfl,hc⟩:=hs (by omega);have c0:=hH.cell (hc 0 (by omega));have q0:(0:Int)<(t.size:Int):=by omega
 have p0:0<t.size:=by omega
 have c1:=hH.cell (hc 1 (by omega));have q1:(1:Int)<(t.size:Int):=by omega
 have p1:1<t.size:=by omega
 have c2:=hH.cell (hc 2 (by omega));have q2:(2:Int)<(t.size:Int):=by omega
 have p2:2<t.size:=by omega
 have c3:=hH.cell (hc 3 (by omega));have q3:(3:Int)<(t.size:Int):=by omega
 have p3:3<t.size:=by omega
 have c4:=hH.cell (hc 4 (by omega));have q4:(4:Int)<(t.size:Int):=by omega
 have p4:4<t.size:=by omega
 have c5:=hH.cell (hc 5 (by omega));have q5:(5:Int)<(t.size:Int):=by omega
 have p5:5<t.size:=by omega
 have c6:=hH.cell (hc 6 (by omega));have q6:(6:Int)<(t.size:Int):=by omega
 have p6:6<t.size:=by omega
 have c7:=hH.cell (hc 7 (by omega));have q7:(7:Int)<(t.size:Int):=by omega
 have p7:7<t.size:=by omega
 have l0:=(t.get! 0).toNat_lt
 generalize t.get! 0=x0 at *
 have l1:=(t.get! 1).toNat_lt
 generalize t.get! 1=x1 at *
 have l2:=(t.get! 2).toNat_lt
 generalize t.get! 2=x2 at *
 have l3:=(t.get! 3).toNat_lt
 generalize t.get! 3=x3 at *
 have l4:=(t.get! 4).toNat_lt
 generalize t.get! 4=x4 at *
 have l5:=(t.get! 5).toNat_lt
 generalize t.get! 5=x5 at *
 have l6:=(t.get! 6).toNat_lt
 generalize t.get! 6=x6 at *
 have l7:=(t.get! 7).toNat_lt
 generalize t.get! 7=x7 at *
 have hv:((Lib.leNat [x0,x1,x2,x3,x4,x5,x6,x7]:Nat):Int)=(x0.toNat:Int)+(x1.toNat:Int)*256+(x2.toNat:Int)*65536+(x3.toNat:Int)*16777216+(x4.toNat:Int)*4294967296+(x5.toNat:Int)*1099511627776+(x6.toNat:Int)*281474976710656+(x7.toNat:Int)*72057594037927936:=by
  simp only[Lib.leNat]
  push_cast
  omega
 have HV:=Hh hv;clear hv hc hs
 simp only[Nat.add_zero]at c0
 go_enter Tryz.func59,Tryz.ntmps59
 go_upto_region 2 with fail
 refine zp 47 (fun w'=>w'.cell? ⟨b,off,none⟩=some (.int .u8 (x0.toNat:Int))∧w'.cell? ⟨b,off+1,none⟩=some (.int .u8 (x1.toNat:Int))∧w'.cell? ⟨b,off+2,none⟩=some (.int .u8 (x2.toNat:Int))∧w'.cell? ⟨b,off+3,none⟩=some (.int .u8 (x3.toNat:Int))∧w'.cell? ⟨b,off+4,none⟩=some (.int .u8 (x4.toNat:Int))∧w'.cell? ⟨b,off+5,none⟩=some (.int .u8 (x5.toNat:Int))∧w'.cell? ⟨b,off+6,none⟩=some (.int .u8 (x6.toNat:Int))∧w'.cell? ⟨b,off+7,none⟩=some (.int .u8 (x7.toNat:Int))) (by kernel_rfl) (⟨c0,c1,c2,c3,c4,c5,c6,c7⟩) (fun zy=>?_)
 refine TkS 0 rfl zy ?_
 refine TkS 1 rfl zy ?_
 refine TkS 2 rfl zy ?_
 refine TkS 3 rfl zy ?_
 refine TkS 4 rfl zy ?_
 refine TkS 5 rfl zy ?_
 refine TkS 6 rfl zy ?_
 refine TkS 7 rfl zy ?_
 refine TkS 8 rfl zy ?_
 refine TkS 9 rfl zy ?_
 refine TkS 10 rfl zy ?_
 refine TkS 11 rfl zy ?_
 refine TkS 12 rfl zy ?_
 refine TkS 13 rfl zy ?_
 refine TkS 14 rfl zy ?_
 refine TkS 15 rfl zy ?_
 refine TkS 16 rfl zy ?_
 refine TkS 17 rfl zy ?_
 refine TkS 18 rfl zy ?_
 refine TkS 19 rfl zy ?_
 refine TkS 20 rfl zy ?_
 refine TkS 21 rfl zy ?_
 refine TkS 22 rfl zy ?_
 refine TkS 23 rfl zy ?_
 refine TkS 24 rfl zy ?_
 refine TkS 25 rfl zy ?_
 refine TkS 26 rfl zy ?_
 refine TkS 27 rfl zy ?_
 refine TkS 28 rfl zy ?_
 refine TkS 29 rfl zy ?_
 refine TkS 30 rfl zy ?_
 refine TkS 31 rfl zy ?_
 refine TkS 32 rfl zy ?_
 refine TkS 33 rfl zy ?_
 refine TkS 34 rfl zy ?_
 refine TkS 35 rfl zy ?_
 refine TkS 36 rfl zy ?_
 refine TkS 37 rfl zy ?_
 refine TkS 38 rfl zy ?_
 refine TkS 39 rfl zy ?_
 refine TkS 40 rfl zy ?_
 refine TkS 41 rfl zy ?_
 refine TkS 42 rfl zy ?_
 refine TkS 43 rfl zy ?_
 refine TkS 44 rfl zy ?_
 refine TkS 45 rfl zy ?_
 refine TkS 46 rfl zy ?_
 refine Wd ?_
 clear zy;go_wp2_with fail
 go_ret
 refine⟨?_,1,rfl⟩
 simp (disch:=omega) only [u64_wrap_id,u64_or8,u64_or16,u64_or24,u64_or32,u64_or40,u64_or48,u64_or56]
 rw[HV.out];rfl
end Go.Proofs.YtnfoilblmhbobaaGreatDoor
