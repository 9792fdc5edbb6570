/- squeezed. Walks: keys derived of the result  -/
import Derived.Test.YtnfoilblmhbobaaGreatDoorK20
import Derived.OwnWalk
set_option linter.unusedVariables false
set_option linter.unusedSimpArgs false
set_option maxRecDepth 100000
set_option maxHeartbeats 25600000
namespace Go.Proofs.YtnfoilblmhbobaaGreatDoor
open Go.RowKit
def nR (w:World) (H:Snap) (b:List UInt8) (n:Nat) (e:Ending) (w':World):Prop:=∃ A c H',e=.returned (.tuple #[.slice A n c,.int .i64 0])∧Grows w H w' H'∧IsBytes H' A c b
theorem oV {A:Option Addr}{c:Nat}{prk:List UInt8}{np:Nat}(hn:np=prk.length) (yU:prk.length≤1099511627) {B:Option Addr}{d:Nat}{ctx:List UInt8}{k:Nat}(hk:k=ctx.length) (hc:ctx.length≤2400) (label n:Nat) (hl:label≤1048576) (ow:n≤8160) {H:Snap}(w:World) (hH:Holds w H) (hS:Src w A (prk.map zm)) (hT:Src w B (ctx.map zm)) :
  Calls Tryz.prog 37 #[.slice A np c,.int .i64 (label:Int),.slice B k d,.int .i64 (n:Int)] w (nR w H (gw prk label ctx n) n):=by
 have HN:=Hh (And.intro hn (And.intro yU (And.intro hk (And.intro hc (And.intro hl ow)))));have HS:=Hh hS;have HT:=Hh hT;have n1:¬ ((label:Int)<0):=by omega
 have n2:¬ ((1048576:Int)<(label:Int)):=by omega
 have n3:¬ ((n:Int)<0):=by omega
 have n4:¬ ((8160:Int)<(n:Int)):=by omega
 have n5:¬ ((2400:Int)<(k:Int)):=by omega
 have HH:=Hh hH;have yY:=Below.refl w.heap.size w;clear hn yU hk hc hl ow hS hT hH;go_enter Tryz.func37,Tryz.ntmps37
 go_wp2_with fail
 refine(mO (label:Int) (by have:=HN.out;omega) (by have:=HN.out;omega) _).mono ?_
 rintro e w1 ⟨r1,rfl,uh⟩
 obtain⟨A1,c1,rfl,_⟩:=uh.own.form;have xX:=uh.own.src;have zd:=yY.trans (uh.2.mono yY.size);obtain⟨n1a,kG⟩:∃ q,(t7 (label:Int)).length=q:=⟨_,rfl⟩
 rw[kG];have cZ:=Hh kG;clear kG uh yY;go_wp2_with fail
 refine(dw (c:=d) HN.out.2.2.1 (by have:=HN.out;omega) _ (HT.out.below zd)).mono ?_
 rintro e w2 ⟨r2,rfl,rC⟩
 obtain⟨A2,c2,rfl,_⟩:=rC.own.form;have iD:=rC.own.src;replace xX:=xX.below rC.2;have zO:=zd.trans (rC.2.mono zd.size);obtain⟨n2a,kH⟩:∃ q,(sR ctx).length=q:=⟨_,rfl⟩
 rw[kH];have sS:=Hh kH;clear kH rC zd;go_wp2_with fail
 refine(mO (n:Int) (by have:=HN.out;omega) (by have:=HN.out;omega) _).mono ?_
 rintro e w3 ⟨r3,rfl,rk⟩
 obtain⟨A3,c3,rfl,_⟩:=rk.own.form;have dC:=rk.own.src;replace xX:=xX.below rk.2;replace iD:=iD.below rk.2;have yV:=zO.trans (rk.2.mono zO.size);obtain⟨n3a,kI⟩:∃ q,(t7 (n:Int)).length=q:=⟨_,rfl⟩
 rw[kI];have Uv:=Hh kI;clear kI rk zO;have hl:=SrcR.lit3 (c1:=c1) (c2:=c2) (c3:=c3) w3 22 cZ.out.symm sS.out.symm Uv.out.symm xX iD dC;have xW:=yV.alloc yV.size (.cells #[.slice A1 n1a c1,.slice A2 n2a c2,.slice A3 n3a c3] 22);obtain⟨P,hP⟩:∃ P,w3.heap.size=P:=⟨_,rfl⟩
 rw[hP]at hl;obtain⟨w4,kz⟩:∃ w4,w3.alloc (.cells #[.slice A1 n1a c1,.slice A2 n2a c2,.slice A3 n3a c3] 22)=w4:=⟨_,rfl⟩
 rw[kz]at hl xW;have HW:=Hh (And.intro hP kz);have XZ:Hid ([t7 (label:Int),sR ctx,t7 (n:Int)].flatten=uD label ctx n):=ft label ctx n;have XY:=Hh (oA label ctx n);have JN:=Hh (q8 (n:=3) (c:=3) rfl (by simp) (by rw[XZ.out];have:=XY.out;have:=HN.out;omega) w4 hl);clear hP kz hl yV xX iD dC;go_wp2_with fail
 rw[HW.out.1,HW.out.2]
 refine JN.out.mono ?_
 rintro e w5 ⟨r5,rfl,xT⟩
 rw[XZ.out]at xT;obtain⟨A5,c5,rfl,_⟩:=xT.own.form;have au:=xT.own.src;have yv:=xW.trans (xT.2.mono xW.size);obtain⟨n5a,kJ⟩:∃ q,(uD label ctx n).length=q:=⟨_,rfl⟩
 rw[kJ];have EX:=Hh (jK (c:=c) (d:=c5) HN.out.1 HN.out.2.1 (ni:=n5a) kJ.symm (by have:=XY.out;have:=HN.out;omega) n (by have:=HN.out;omega) w5 (HH.out.below yv (Nat.le_refl _)) (HS.out.below yv) au);have HG:=Hh (Grows.of_below HH.out yv);clear kJ au yv xT xW JN HW;go_wp2_with fail
 refine EX.out.mono ?_
 rintro e w6 ⟨A6,c6,H6,rfl,yC,wT⟩
 have xp:=HG.out.trans yC;clear yC EX HG;go_wp2_with fail
 go_ret2
 exact⟨_,_,_,rfl,xp,wT⟩
theorem oM {A:Option Addr}{c:Nat}{prk:List UInt8}{np:Nat}(hn:np=prk.length) (yU:prk.length≤1099511627) {B:Option Addr}{d:Nat}{ctx:List UInt8}{k:Nat}(hk:k=ctx.length) (hc:ctx.length≤2400) (label n:Nat) (hl:label≤1048576) (ow:n≤8160) {H:Snap}(w:World) (hH:Holds w H) (hS:Src w A (prk.map zm)) (hT:Src w B (ctx.map zm)) :
  Calls Tryz.prog 38 #[.slice A np c,.int .i64 (label:Int),.slice B k d,.int .i64 (n:Int)] w (nR w H (gw prk label ctx n) n):=by
 have HN:=Hh (And.intro hn (And.intro yU (And.intro hk (And.intro hc (And.intro hl ow)))));have HS:=Hh hS;have HT:=Hh hT;have n1:¬ ((label:Int)<0):=by omega
 have n2:¬ ((1048576:Int)<(label:Int)):=by omega
 have n3:¬ ((n:Int)<0):=by omega
 have n4:¬ ((8160:Int)<(n:Int)):=by omega
 have n5:¬ ((2400:Int)<(k:Int)):=by omega
 have HH:=Hh hH;have yY:=Below.refl w.heap.size w;have u1:IntKind.u64.wrap (label:Int)=(label:Int):=by rw[IntKind.wrap_u64];omega
 have u2:IntKind.u64.wrap (n:Int)=(n:Int):=by rw[IntKind.wrap_u64];omega
 clear hn yU hk hc hl ow hS hT hH;go_enter Tryz.func38,Tryz.ntmps38
 go_wp2_with fail
 refine(qG 0 (label:Int) _ (by omega) (by omega) (by omega) (by have:=HN.out;omega)).mono ?_
 rintro e w1 ⟨r1,rfl,uh⟩
 rw[show zW (0:Int).toNat (label:Int).toNat=zW 0 label from by rw[show(0:Int).toNat=0 from rfl,Int.toNat_natCast]]at uh;obtain⟨A1,c1,rfl,_⟩:=uh.own.form;have xX:=uh.own.src;have zd:=yY.trans (uh.2.mono yY.size);obtain⟨n1a,kG⟩:∃ q,(zW 0 label).length=q:=⟨_,rfl⟩
 rw[kG];have cZ:=Hh kG;clear kG uh yY;go_wp2_with fail
 refine(bP (c:=d) HN.out.2.2.1 (by have:=HN.out;omega) _ (HT.out.below zd)).mono ?_
 rintro e w2 ⟨r2,rfl,rC⟩
 obtain⟨A2,c2,rfl,_⟩:=rC.own.form;have iD:=rC.own.src;replace xX:=xX.below rC.2;have zO:=zd.trans (rC.2.mono zd.size);obtain⟨n2a,kH⟩:∃ q,(sR ctx).length=q:=⟨_,rfl⟩
 rw[kH];have sS:=Hh kH;clear kH rC zd;go_wp2_with fail
 refine(qG 0 (n:Int) _ (by omega) (by omega) (by omega) (by have:=HN.out;omega)).mono ?_
 rintro e w3 ⟨r3,rfl,rk⟩
 rw[show zW (0:Int).toNat (n:Int).toNat=zW 0 n from by rw[show(0:Int).toNat=0 from rfl,Int.toNat_natCast]]at rk;obtain⟨A3,c3,rfl,_⟩:=rk.own.form;have dC:=rk.own.src;replace xX:=xX.below rk.2;replace iD:=iD.below rk.2;have yV:=zO.trans (rk.2.mono zO.size);obtain⟨n3a,kI⟩:∃ q,(zW 0 n).length=q:=⟨_,rfl⟩
 rw[kI];have Uv:=Hh kI;clear kI rk zO;have hl:=SrcR.lit3 (c1:=c1) (c2:=c2) (c3:=c3) w3 22 cZ.out.symm sS.out.symm Uv.out.symm xX iD dC;have xW:=yV.alloc yV.size (.cells #[.slice A1 n1a c1,.slice A2 n2a c2,.slice A3 n3a c3] 22);obtain⟨P,hP⟩:∃ P,w3.heap.size=P:=⟨_,rfl⟩
 rw[hP]at hl;obtain⟨w4,kz⟩:∃ w4,w3.alloc (.cells #[.slice A1 n1a c1,.slice A2 n2a c2,.slice A3 n3a c3] 22)=w4:=⟨_,rfl⟩
 rw[kz]at hl xW;have HW:=Hh (And.intro hP kz);have XZ:Hid ([zW 0 label,sR ctx,zW 0 n].flatten=uD label ctx n):=fu label ctx n;have XY:=Hh (oA label ctx n);have JN:=Hh (dc (n:=3) (c:=3) rfl (by simp) (by rw[XZ.out];have:=XY.out;have:=HN.out;omega) w4 hl);clear hP kz hl yV xX iD dC;go_wp2_with fail
 rw[HW.out.1,HW.out.2]
 refine JN.out.mono ?_
 rintro e w5 ⟨r5,rfl,xT⟩
 rw[XZ.out]at xT;obtain⟨A5,c5,rfl,_⟩:=xT.own.form;have au:=xT.own.src;have yv:=xW.trans (xT.2.mono xW.size);obtain⟨n5a,kJ⟩:∃ q,(uD label ctx n).length=q:=⟨_,rfl⟩
 rw[kJ];have EX:=Hh (nC (c:=c) (d:=c5) HN.out.1 HN.out.2.1 (ni:=n5a) kJ.symm (by have:=XY.out;have:=HN.out;omega) n (by have:=HN.out;omega) w5 (HH.out.below yv (Nat.le_refl _)) (HS.out.below yv) au);have HG:=Hh (Grows.of_below HH.out yv);clear kJ au yv xT xW JN HW;go_wp2_with fail
 refine EX.out.mono ?_
 rintro e w6 ⟨A6,c6,H6,rfl,yC,wT⟩
 have xp:=HG.out.trans yC;clear yC EX HG;go_wp2_with fail
 go_ret2
 exact⟨_,_,_,rfl,xp,wT⟩
theorem tm {A:Option Addr}{c:Nat}{out:List UInt8}{np:Nat}(hn:np=out.length) (yU:out.length≤1099511627) {B:Option Addr}{d:Nat}{ctx:List UInt8}{k:Nat}(hk:k=ctx.length) (hc:ctx.length≤2400) (label n:Nat) (hl:label≤1048576) (ow:n≤8160) {H:Snap}(w:World) (hH:Holds w H) (hS:Src w A (out.map zm)) (hT:Src w B (ctx.map zm)) :
  Calls Tryz.prog 31 #[.slice A np c,.int .i64 (label:Int),.slice B k d,.int .i64 (n:Int)] w (nR w H (yT out label ctx n) n):=by
 have K1:=Hh (oV (c:=c) hn yU (B:=none) (d:=0) (k:=0) (ctx:=[]) rfl (by simp) 10 32 (by omega) (by omega) w hH hS (Src.nil _ _));have HN:=Hh (And.intro hk (And.intro hc (And.intro hl ow)));have HT:=Hh hT;clear hn yU hk hc hl ow hS hT;go_enter Tryz.func31,Tryz.ntmps31
 go_wp2_with fail
 refine K1.out.mono ?_
 rintro e w1 ⟨A1,c1,H1,rfl,wu,zd⟩
 have K2:=Hh (oV (c:=c1) (np:=32) (tt out 10 [] 32).symm (by rw[tt];omega) (d:=d) HN.out.1 HN.out.2.1 label n HN.out.2.2.1 HN.out.2.2.2 w1 wu.holds (Src.of_row zd.row wu.holds) (HT.out.below wu.below));have HG:=Hh wu;clear K1 wu zd;go_wp2_with fail
 refine K2.out.mono ?_
 rintro e w2 ⟨A2,c2,H2,rfl,yw,zO⟩
 have yt:=HG.out.trans yw;clear K2 yw HG;go_wp2_with fail
 go_ret2
 exact⟨_,_,_,rfl,yt,zO⟩
theorem tj {A:Option Addr}{c:Nat}{out:List UInt8}{np:Nat}(hn:np=out.length) (yU:out.length≤1099511627) {B:Option Addr}{d:Nat}{ctx:List UInt8}{k:Nat}(hk:k=ctx.length) (hc:ctx.length≤2400) (label n:Nat) (hl:label≤1048576) (ow:n≤8160) {H:Snap}(w:World) (hH:Holds w H) (hS:Src w A (out.map zm)) (hT:Src w B (ctx.map zm)) :
  Calls Tryz.prog 32 #[.slice A np c,.int .i64 (label:Int),.slice B k d,.int .i64 (n:Int)] w (nR w H (yT out label ctx n) n):=by
 have K1:=Hh (oM (c:=c) hn yU (B:=none) (d:=0) (k:=0) (ctx:=[]) rfl (by simp) 10 32 (by omega) (by omega) w hH hS (Src.nil _ _));have HN:=Hh (And.intro hk (And.intro hc (And.intro hl ow)));have HT:=Hh hT;clear hn yU hk hc hl ow hS hT;go_enter Tryz.func32,Tryz.ntmps32
 go_wp2_with fail
 refine K1.out.mono ?_
 rintro e w1 ⟨A1,c1,H1,rfl,wu,zd⟩
 have K2:=Hh (oM (c:=c1) (np:=32) (tt out 10 [] 32).symm (by rw[tt];omega) (d:=d) HN.out.1 HN.out.2.1 label n HN.out.2.2.1 HN.out.2.2.2 w1 wu.holds (Src.of_row zd.row wu.holds) (HT.out.below wu.below));have HG:=Hh wu;clear K1 wu zd;go_wp2_with fail
 refine K2.out.mono ?_
 rintro e w2 ⟨A2,c2,H2,rfl,yw,zO⟩
 have yt:=HG.out.trans yw;clear K2 yw HG;go_wp2_with fail
 go_ret2
 exact⟨_,_,_,rfl,yt,zO⟩
theorem nH {H:Snap}{A:Option Addr}{c:Nat}{out:List UInt8}{np:Nat}(hn:np=out.length) (yU:out.length≤1099511627) (hI:IsBytes H A c out) (w:World) (hH:Holds w H) :
  Calls Tryz.prog 25 #[.slice A np c] w fun e w'=>∃ a ac b bc H',e=.returned (.tuple #[.slice a 16 ac,.slice b 8 bc])∧Grows w H w' H'∧IsBytes H' a ac (yT out 0 [] 16)∧IsBytes H' b bc (yT out 1 [] 8):=by
 have E1:=Hh (tm (c:=c) hn yU (B:=none) (d:=0) (k:=0) (ctx:=[]) rfl (by simp) 0 16 (by omega) (by omega) w hH (Src.of_row hI.row hH) (Src.nil _ _));have HN:=Hh (And.intro hn yU);have HI:=Hh hI;clear hn yU hI hH;go_enter Tryz.func25,Tryz.ntmps25
 go_wp2_with fail
 refine E1.out.mono ?_
 rintro e w1 ⟨A1,c1,H1,rfl,wu,zd⟩
 have E2:=Hh (tm (c:=c) HN.out.1 HN.out.2 (B:=none) (d:=0) (k:=0) (ctx:=[]) rfl (by simp) 1 8 (by omega) (by omega) w1 wu.holds (Src.of_row (HI.out.mono wu.le).row wu.holds) (Src.nil _ _));clear E1;go_wp2_with fail
 refine E2.out.mono ?_
 rintro e w2 ⟨A2,c2,H2,rfl,yw,zO⟩
 have yt:=wu.trans yw;have Za:=zd.mono yw.le;clear E2 wu yw zd;go_wp2_with fail
 go_ret2
 exact⟨_,_,_,_,_,rfl,yt,Za,zO⟩
theorem nD {H:Snap}{A:Option Addr}{c:Nat}{out:List UInt8}{np:Nat}(hn:np=out.length) (yU:out.length≤1099511627) (hI:IsBytes H A c out) (w:World) (hH:Holds w H) :
  Calls Tryz.prog 26 #[.slice A np c] w fun e w'=>∃ a ac b bc H',e=.returned (.tuple #[.slice a 16 ac,.slice b 8 bc])∧Grows w H w' H'∧IsBytes H' a ac (yT out 0 [] 16)∧IsBytes H' b bc (yT out 1 [] 8):=by
 have E1:=Hh (tj (c:=c) hn yU (B:=none) (d:=0) (k:=0) (ctx:=[]) rfl (by simp) 0 16 (by omega) (by omega) w hH (Src.of_row hI.row hH) (Src.nil _ _));have HN:=Hh (And.intro hn yU);have HI:=Hh hI;clear hn yU hI hH;go_enter Tryz.func26,Tryz.ntmps26
 go_wp2_with fail
 refine E1.out.mono ?_
 rintro e w1 ⟨A1,c1,H1,rfl,wu,zd⟩
 have E2:=Hh (tj (c:=c) HN.out.1 HN.out.2 (B:=none) (d:=0) (k:=0) (ctx:=[]) rfl (by simp) 1 8 (by omega) (by omega) w1 wu.holds (Src.of_row (HI.out.mono wu.le).row wu.holds) (Src.nil _ _));clear E1;go_wp2_with fail
 refine E2.out.mono ?_
 rintro e w2 ⟨A2,c2,H2,rfl,yw,zO⟩
 have yt:=wu.trans yw;have Za:=zd.mono yw.le;clear E2 wu yw zd;go_wp2_with fail
 go_ret2
 exact⟨_,_,_,_,_,rfl,yt,Za,zO⟩
theorem yL:(Tryz.prog.info? 47).map (·.size)=some 6:=by kernel_rfl
abbrev ve:Array Value:=#[.slice none 0 0,.slice none 0 0,.bool false,.slice none 0 0,.slice none 0 0,.slice none 0 0]
theorem ig (a b:Option Addr) (n m c d:Nat) (A B:Option Addr) (k l e f:Nat):(#[.slice a n c,.slice b m d,.bool false,.slice none 0 0,.slice A k e,.slice B l f]:Array Value).all (·.oneCell')=true:=by simp[Value.oneCell']
def ResOut (w:World) (H:Snap) (v:Rn) (e:Ending) (w':World):Prop:=∃ a' H',e=.returned (.tuple #[.agg (tK (xD v).1 a'),.int .i64 (xD v).2])∧Grows w H w' H'∧IsInp H' (xD v).1 a'
theorem ResOut.nil_ {w w':World}{H H':Snap}{v:Rn}{e:Ending}(h:v.phase≠4) (he:e=.returned (.tuple #[.agg ve,.int .i64 15])) (hG:Grows w H w' H'):ResOut w H v e w':=by
 have hr:xD v=(tz,15):=by rw[xD,if_pos h]
 exact⟨iQ,H',by rw[hr,he];rfl,hG,by rw[hr];exact gA _⟩
theorem ResOut.done {w w':World}{H H':Snap}{v:Rn}{e:Ending}{sa ta oa ma:Option Addr}{sc tc oc mc:Nat}(h:v.phase=4) (he:e=.returned (.tuple #[.agg #[.slice sa 16 sc,.slice ta 8 tc,.bool false,.slice none 0 0,.slice oa v.other.length oc,.slice ma v.mine.length mc],.int .i64 0])) (hG:Grows w H w' H')
  (h1:IsBytes H' sa sc (yT v.out 0 [] 16)) (h2:IsBytes H' ta tc (yT v.out 1 [] 8)) (h3:IsBytes H' oa oc v.other) (h4:IsBytes H' ma mc v.mine):ResOut w H v e w':=by
 have hr:xD v=(⟨yT v.out 0 [] 16,yT v.out 1 [] 8,false,[],v.other,v.mine⟩,0):=by rw[xD,if_neg (by rw[h];simp)]
 refine⟨⟨⟨sa,sc⟩,⟨ta,tc⟩,⟨none,0⟩,⟨oa,oc⟩,⟨ma,mc⟩⟩,H', ?_,hG, ?_⟩
 ·rw[hr,he]
  simp only[tK,ut]
  rfl
 rw[hr]
 exact⟨h1,h2,IsBytes.nil _,h3,h4⟩
structure XS (xs z:Array Value) (W0:World) (H:Snap) (w:World) (Hr:Snap):Prop where
 grows:Grows W0 H w Hr
 x:Blk w W0.heap.size 34 xs
 r:Blk w (W0.heap.size+1) 47 z
 hX:Hr W0.heap.size=none
 hR:Hr (W0.heap.size+1)=none
section
variable {z z' xs:Array Value} {W0 w w':World} {H Hr Hs:Snap}
theorem XS.grow (h:XS xs z W0 H w Hr) (k:Grows w Hr w' Hs):XS xs z W0 H w' Hs:=⟨h.grows.trans k,h.x.below k.below,h.r.below k.below,k.none h.hX h.x.lt,k.none h.hR h.r.lt⟩
theorem XS.drew (h:XS xs z W0 H w Hr):XS xs z W0 H w.drew Hr:=h.grow ((Grows.refl h.grows.holds).drew)
theorem XS.put (h:XS xs z W0 H w Hr) (hB:Blk w' (W0.heap.size+1) 47 z') (hg:w.grownBy w' (some (W0.heap.size+1))):XS xs z' W0 H w' Hr :=
 ⟨h.grows.grownOwn h.hR (by omega) hg,h.x.gr hg (by omega),hB,h.hX,h.hR⟩
end
theorem pW {H:Snap}{v:Rn}{a:RnA}(ha:IsRn H v a) (hs:v.Small) (w:World) (hH:Holds w H) :
  Calls Tryz.prog 13 #[.agg (rnC v a)] w (ResOut w H v):=by
 have hR:=Blk.new (w.alloc (.cells (rnC v a) 34)) 47 ve;rw[zY]at hR
 have hT:XS (rnC v a) ve w H ((w.alloc (.cells (rnC v a) 34)).alloc (.cells ve 47)) H :=
  ⟨((Grows.refl hH).alloc _).alloc _,(Blk.new w 34 (rnC v a)).alloc _,hR,hH.none_of_ge (Nat.le_refl _),hH.none_of_ge (by omega)⟩
 have HA:=Hh ha;have HS:=Hh hs;clear ha hs hH hR;go_enter Tryz.func13,Tryz.ntmps13
 obtain⟨W2,sU⟩:∃ W2,(w.alloc (.cells (rnC v a) 34)).alloc (.cells ve 47)=W2:=⟨_,rfl⟩
 go_upto_region 1 with fail
 rw[sU]at hT
 try rw[sU]
 clear sU;obtain⟨ph,kf⟩:∃ q,v.phase=q:=⟨_,rfl⟩
 have x1:W2.cell? ⟨w.heap.size,1,none⟩=some (.int .i64 ph):=by rw[← kf];exact hT.x.cell 1 rfl
 have HP:=Hh kf;clear kf
 by_cases h4:ph=4
 ·obtain⟨f1,f2,f3⟩:=uC h4;have Zs:=Hh (HP.out.trans h4);clear h4;have x26:W2.cell? ⟨w.heap.size,26,none⟩=some (.slice a.out.a v.out.length a.out.c):=hT.x.cell 26 rfl;go_wp2_with fail
  refine(nH rfl (by have:=HS.out.out;omega) (HA.out.out.mono hT.grows.le) _ hT.grows.holds).mono ?_
  rintro e w3 ⟨sa,sc,ta,tc,H3,rfl,yt,b1,b2⟩
  replace hT:=hT.grow yt;clear yt x1 x26;go_upto_region 4 with fail
  replace hT:=hT.drew
  refine zp 11 (fun wx=>wx.cell? ⟨w.heap.size,18,none⟩=some (.slice a.other.a v.other.length a.other.c)∧wx.cell? ⟨w.heap.size,17,none⟩=some (.slice a.mine.a v.mine.length a.mine.c)) (by kernel_rfl) (⟨hT.x.cell 18 rfl,hT.x.cell 17 rfl⟩) (fun zy=>?_)
  refine TkS 0 rfl zy ?_
  refine TkS 1 rfl zy ?_
  refine TkS 2 rfl zy ?_
  refine TkS 3 rfl zy ?_
  refine TkS 5 rfl zy ?_
  refine TkS 6 rfl zy ?_
  refine To 4 rfl fun K hK=>?_
  go_simp
  refine(ze rfl (by have:=HS.out.other;omega) (HA.out.other.mono hT.grows.le) _ hT.grows.holds).mono ?_
  rintro e w5 ⟨A5,c5,H5,rfl,xv,b5⟩
  replace hT:=hT.grow xv;replace b1:=b1.mono xv.le;replace b2:=b2.mono xv.le;clear xv
  refine Ko hK ?_ fun zy=>?_
  ·exact⟨hT.x.cell 18 rfl,hT.x.cell 17 rfl⟩
  clear hK K
  refine To 7 rfl fun K hK=>?_
  go_simp
  refine(ze rfl (by have:=HS.out.mine;omega) (HA.out.mine.mono hT.grows.le) _ hT.grows.holds).mono ?_
  rintro e w6 ⟨A6,c6,H6,rfl,yC,b6⟩
  replace hT:=hT.grow yC;replace b1:=b1.mono yC.le;replace b2:=b2.mono yC.le;replace b5:=b5.mono yC.le;clear yC
  refine Ko hK ?_ fun zy=>?_
  ·exact⟨hT.x.cell 18 rfl,hT.x.cell 17 rfl⟩
  clear hK K
  refine TkS 8 rfl zy ?_
  refine To 9 rfl fun K hK=>?_
  rw[if_pos (by rfl)]
  refine zD _ _ _ rfl (w.heap.size+1) #[.slice sa 16 sc,.slice ta 8 tc,.bool false,.slice none 0 0,.slice A5 v.other.length c5,.slice A6 v.mine.length c6] rfl rfl _ _ hT.r yL rfl (ig _ _ _ _ _ _ _ _ _ _ _ _) fun w9 vP hg9=>?_
  replace hT:=hT.put vP hg9;clear vP hg9
  refine Ko hK ?_ fun zy=>?_
  ·exact⟨hT.x.cell 18 rfl,hT.x.cell 17 rfl⟩
  clear hK K
  refine TkS 10 rfl zy ?_
  refine Wd ?_
  clear zy;go_wp2_with fail
  refine zo rfl rfl hT.r rfl rfl yL rfl ?_
  exact ResOut.done Zs.out rfl hT.grows b1 b2 b5 b6
 obtain⟨f1,f2,f3⟩:=vJ h4;have Zs:Hid (v.phase≠4):=by rw[Hid,HP.out];exact h4
 clear h4;go_wp2_with (with_reducible refine zx ?_)
 refine zr rfl _ _ _ rfl rfl (w.heap.size+1) ve rfl rfl _ _ hT.r yL rfl (ig _ _ _ _ _ _ _ _ _ _ _ _) fun w9 vP hg9=>?_
 replace hT:=hT.put vP hg9;clear vP hg9 x1;go_wp2_with fail
 refine zo rfl rfl hT.r rfl rfl yL rfl ?_
 exact ResOut.nil_ Zs.out rfl hT.grows
theorem nE {H:Snap}{v:Rn}{a:RnA}(ha:IsRn H v a) (hs:v.Small) (w:World) (hH:Holds w H) :
  Calls Tryz.prog 14 #[.agg (rnC v a)] w (ResOut w H v):=by
 have hR:=Blk.new (w.alloc (.cells (rnC v a) 34)) 47 ve;rw[zY]at hR
 have hT:XS (rnC v a) ve w H ((w.alloc (.cells (rnC v a) 34)).alloc (.cells ve 47)) H :=
  ⟨((Grows.refl hH).alloc _).alloc _,(Blk.new w 34 (rnC v a)).alloc _,hR,hH.none_of_ge (Nat.le_refl _),hH.none_of_ge (by omega)⟩
 have HA:=Hh ha;have HS:=Hh hs;clear ha hs hH hR;go_enter Tryz.func14,Tryz.ntmps14
 obtain⟨W2,sU⟩:∃ W2,(w.alloc (.cells (rnC v a) 34)).alloc (.cells ve 47)=W2:=⟨_,rfl⟩
 go_upto_region 1 with fail
 rw[sU]at hT
 try rw[sU]
 clear sU;obtain⟨ph,kf⟩:∃ q,v.phase=q:=⟨_,rfl⟩
 have x1:W2.cell? ⟨w.heap.size,1,none⟩=some (.int .i64 ph):=by rw[← kf];exact hT.x.cell 1 rfl
 have HP:=Hh kf;clear kf
 by_cases h4:ph=4
 ·obtain⟨f1,f2,f3⟩:=uC h4;have Zs:=Hh (HP.out.trans h4);clear h4;have x26:W2.cell? ⟨w.heap.size,26,none⟩=some (.slice a.out.a v.out.length a.out.c):=hT.x.cell 26 rfl;go_wp2_with fail
  refine(nD rfl (by have:=HS.out.out;omega) (HA.out.out.mono hT.grows.le) _ hT.grows.holds).mono ?_
  rintro e w3 ⟨sa,sc,ta,tc,H3,rfl,yt,b1,b2⟩
  replace hT:=hT.grow yt;clear yt x1 x26;have x18:w3.cell? ⟨w.heap.size,18,none⟩=some (.slice a.other.a v.other.length a.other.c):=hT.x.cell 18 rfl;have x17:w3.cell? ⟨w.heap.size,17,none⟩=some (.slice a.mine.a v.mine.length a.mine.c):=hT.x.cell 17 rfl;go_wp2_with (with_reducible refine zx ?_)
  refine zr rfl _ _ _ rfl rfl (w.heap.size+1) #[.slice sa 16 sc,.slice ta 8 tc,.bool false,.slice none 0 0,.slice a.other.a v.other.length a.other.c,.slice a.mine.a v.mine.length a.mine.c] rfl rfl _ _ hT.r yL rfl (ig _ _ _ _ _ _ _ _ _ _ _ _) fun w9 vP hg9=>?_
  replace hT:=hT.put vP hg9;clear vP hg9 x18 x17;go_wp2_with fail
  refine zo rfl rfl hT.r rfl rfl yL rfl ?_
  exact ResOut.done Zs.out rfl hT.grows b1 b2 (HA.out.other.mono hT.grows.le) (HA.out.mine.mono hT.grows.le)
 obtain⟨f1,f2,f3⟩:=vJ h4;have Zs:Hid (v.phase≠4):=by rw[Hid,HP.out];exact h4
 clear h4;go_wp2_with (with_reducible refine zx ?_)
 refine zr rfl _ _ _ rfl rfl (w.heap.size+1) ve rfl rfl _ _ hT.r yL rfl (ig _ _ _ _ _ _ _ _ _ _ _ _) fun w9 vP hg9=>?_
 replace hT:=hT.put vP hg9;clear vP hg9 x1;go_wp2_with fail
 refine zo rfl rfl hT.r rfl rfl yL rfl ?_
 exact ResOut.nil_ Zs.out rfl hT.grows
def ConnSaid (w:World) (l:List UInt8) (e:Ending) (w':World):Prop :=
 match yx l with
 | .error q=>e=.returned (.tuple #[.slice none 0 0,.int .i64 0,.int .i64 (q:Int)])∧Below w.heap.size w w'
 | .ok (c,k)=>∃ r,e=.returned (.tuple #[r,.int .i64 (k:Int),.int .i64 0])∧Fresh w c r w'
theorem ConnSaid.err {w w':World}{l:List UInt8}{e:Ending}{q:Nat}(h:yx l=.error q) (he:e=.returned (.tuple #[.slice none 0 0,.int .i64 0,.int .i64 (q:Int)])) (hb:Below w.heap.size w w'):ConnSaid w l e w':=by
 rw[ConnSaid,h];exact⟨he,hb⟩
theorem ConnSaid.ok {w w':World}{l:List UInt8}{e:Ending}{c:List UInt8}{k:Nat}{r:Value}(h:yx l=.ok (c,k)) (he:e=.returned (.tuple #[r,.int .i64 (k:Int),.int .i64 0])) (hf:Fresh w c r w'):ConnSaid w l e w':=by
 rw[ConnSaid,h];exact⟨r,he,hf⟩
theorem Src.at0 {w:World}{A:Option Addr}{x:UInt8}{t:List UInt8}(h:Src w A ((x::t).map zm)):∃ b off,A=some ⟨b,off,none⟩∧∀ j (hj:j<(x::t).length),w.cell? ⟨b,off+j,none⟩=some (zm (x::t)[j]):=by
 obtain⟨b,off,e,hc⟩:=h (by simp)
 exact⟨b,off,e,fun j hj=>hc j _ (by rw[List.getElem?_map,List.getElem?_eq_getElem hj];rfl)⟩
theorem ql {w:World}{b off n:Nat}{l:List UInt8}(h:∀ j (hj:j<l.length),w.cell? ⟨b,off+j,none⟩=some (zm l[j])) (k:Nat) (B:Option Addr) (hB:n≠0→B=some ⟨b,off+k,none⟩) (hk:k+n≤l.length):Src w B (((l.drop k).take n).map zm):=fun ww=>by
 have h0:n≠0:=by
  intro h0
  subst h0
  simp at ww
 refine⟨b,off+k,hB h0,fun j v hj=>?_⟩
 rw[List.getElem?_map]at hj;obtain⟨u,hu,rfl⟩:=Option.map_eq_some_iff.1 hj;rw[List.getElem?_take]at hu
 split at hu
 ·rename_i hjn
  rw[List.getElem?_drop]at hu;obtain⟨h1,h2⟩:=List.getElem?_eq_some_iff.1 hu;rw[Nat.add_assoc,h (k+j) h1,h2]
 cases hu
theorem qr {A:Option Addr}{n c:Nat}{l:List UInt8}(hn:n=l.length) (hl:l.length≤1099511627000) (hc:n≤c) (tg:c≤9223372036854775807) (w:World) (hs:Src w A (l.map zm)) :
  Calls Tryz.prog 27 #[.slice A n c] w (ConnSaid w l):=by
 cases l with
 | nil =>
  subst hn
  simp only[List.length_nil]
  go_enter Tryz.func27,Tryz.ntmps27
  go_wp2_with fail
  go_ret3
  exact ConnSaid.err (q:=2) rfl rfl (Below.refl _ _)
 | cons x t =>
 obtain⟨b,off,rfl,yS⟩:=Src.at0 hs;have c0:=yS 0 (by simp)
 simp only[Nat.add_zero,List.getElem_cons_zero]at c0
 have vz:(0:Int)<(n:Int):=by rw[hn,List.length_cons];omega
 have lx:=x.toNat_lt;have n0:((n:Int)==0)=false:=by simp;omega
 have n0':((n:Int)=0)=False:=eq_false (by omega);have ob:=Hh yS;have HN:=Hh (And.intro hn (And.intro hl (And.intro hc tg)));clear yS hn hl hc tg hs
 cases hx:xE x with
 | true =>
  have SH:Hid (∀ w1,Calls Tryz.prog 33 #[.int .u8 (x.toNat:Int)] w1 fun e w'=>e=.returned (.bool true)∧w'=w1):=by rw[← hx];exact fun w1=>vH x w1
  have E:Hid (yx (x::t)=.ok ([x],1)):=by rw[Hid,yx,hx];rfl
  clear hx;go_enter Tryz.func27,Tryz.ntmps27
  go_wp2_with fail
  refine(SH.out _).mono ?_
  rintro e w1 ⟨rfl,rfl⟩
  go_wp2_with fail
  go_ret3
  exact ConnSaid.ok E.out rfl (Fresh.lit _ _ _ 1 rfl (by simp) rfl)
 | false =>
 have SH:Hid (∀ w1,Calls Tryz.prog 33 #[.int .u8 (x.toNat:Int)] w1 fun e w'=>e=.returned (.bool false)∧w'=w1):=by rw[← hx];exact fun w1=>vH x w1
 have E0:Hid (yx (x::t)=if x.toNat<64∨88<x.toNat then .error 4 else if 7<x.toNat-64 then .error 8 else if(x::t).length<1+(x.toNat-64) then .error 2
   else if x.toNat-64=1∧xE ((x::t).getD 1 0) then .error 4 else .ok (t.take (x.toNat-64),1+(x.toNat-64))):=by rw[Hid,yx,hx];rfl
 clear hx
 by_cases h1:x.toNat<64
 ·have z1:(x.toNat:Int)<64:=by omega
  have E:Hid (yx (x::t)=.error 4):=by rw[Hid,E0.out,if_pos (.inl h1)]
  go_enter Tryz.func27,Tryz.ntmps27
  go_wp2_with fail
  refine(SH.out _).mono ?_
  rintro e w1 ⟨rfl,rfl⟩
  go_wp2_with fail
  go_ret3
  exact ConnSaid.err E.out rfl (Below.refl _ _)
 have z1:¬ (x.toNat:Int)<64:=by omega
 by_cases h2:88<x.toNat
 ·have z2:(88:Int)<(x.toNat:Int):=by omega
  have E:Hid (yx (x::t)=.error 4):=by rw[Hid,E0.out,if_pos (.inr h2)]
  go_enter Tryz.func27,Tryz.ntmps27
  go_wp2_with fail
  refine(SH.out _).mono ?_
  rintro e w1 ⟨rfl,rfl⟩
  go_wp2_with fail
  go_ret3
  exact ConnSaid.err E.out rfl (Below.refl _ _)
 have z2:¬ (88:Int)<(x.toNat:Int):=by omega
 obtain⟨y,hy⟩:∃ y,x.toNat-64=y:=⟨_,rfl⟩
 have ey:IntKind.i64.wrap ((x.toNat:Int)-64)=(y:Int):=by rw[IntWalk.i64_in _ (by omega)];omega
 have RK:(y:Int)≤24:=by omega
 have ey2:(x.toNat:Int)-64=(y:Int):=by omega
 have E1:Hid (yx (x::t)=if 7<y then .error 8 else if(x::t).length<1+y then .error 2
   else if y=1∧xE ((x::t).getD 1 0) then .error 4 else .ok (t.take y,1+y)):=by rw[Hid,E0.out,if_neg (by omega),hy]
 clear hy h1 h2 E0
 by_cases h3:7<y
 ·have z3:(7:Int)<(y:Int):=by omega
  have E:Hid (yx (x::t)=.error 8):=by rw[Hid,E1.out,if_pos h3]
  go_enter Tryz.func27,Tryz.ntmps27
  go_wp2_with fail
  refine(SH.out _).mono ?_
  rintro e w1 ⟨rfl,rfl⟩
  go_wp2_with fail
  go_ret3
  exact ConnSaid.err E.out rfl (Below.refl _ _)
 have z3:¬ (7:Int)<(y:Int):=by omega
 by_cases h4:n<1+y
 ·have z4:(n:Int)<1+(y:Int):=by omega
  have E:Hid (yx (x::t)=.error 2):=by rw[Hid,E1.out,if_neg h3,if_pos (by have:=HN.out.1;omega)]
  go_enter Tryz.func27,Tryz.ntmps27
  go_wp2_with fail
  refine(SH.out _).mono ?_
  rintro e w1 ⟨rfl,rfl⟩
  go_wp2_with fail
  go_ret3
  exact ConnSaid.err E.out rfl (Below.refl _ _)
 have z4:¬ (n:Int)<1+(y:Int):=by omega
 have E2:Hid (yx (x::t)=if y=1∧xE ((x::t).getD 1 0) then .error 4 else .ok (t.take y,1+y)):=by rw[Hid,E1.out,if_neg h3,if_neg (by have:=HN.out.1;omega)]
 clear E1 h3;have bf:(1:Int)≤1+(y:Int):=by omega
 have ej:1+(y:Int)≤(c:Int):=by have:=HN.out.2.2.1;omega
 have uz:(1:Int)≤(c:Int):=by omega
 have JN:=Hh (fun(w0:World) (B:Option Addr) (k:Nat) (hk:k=y) (hw:Below w.heap.size w w0) (hB:y≠0→B=some ⟨b,off+1,none⟩) =>
  q8 (A:=some ⟨w0.heap.size,0,none⟩) (n:=1) (c:=1) (ls:=[t.take y]) rfl (by simp) (by simp;omega) (w0.alloc (.cells #[.slice B k (c-1)] 22)) (fun _=>⟨w0.heap.size,0,rfl,fun j hj=>by
   obtain rfl:j=0:=by simpa using hj
   refine⟨B,c-1, ?_, ?_⟩
   ·rw[cell_of_row _ w0.heap.size 0 #[.slice B k (c-1)] 22 (0,0) (heap_alloc_new w0 _)];have:(t.take y).length=k:=by rw[List.length_take,hk];have:=HN.out.1;simp at this;omega
    simp[this]
   have h:=ql (w:=w) (n:=y) ob.out 1 B hB (by have:=HN.out.1;omega)
   exact(h.below hw).alloc _⟩))
 have fin:Hid (∀ (w0:World) (B:Option Addr) (cc:Nat),cc=c-1→Below w.heap.size w w0→(y≠0→B=some ⟨b,off+1,none⟩)→Calls Tryz.prog 34 #[.slice (some ⟨w0.heap.size,0,none⟩) 1 1] (w0.alloc (.cells #[.slice B y cc] 22)) fun e w'=>∃ r,e=.returned r∧Fresh (w0.alloc (.cells #[.slice B y cc] 22)) (t.take y) r w'):=fun w0 B cc hcc hw hB=>by
  subst hcc;have:=JN.out w0 B y rfl hw hB
  simpa using this
 clear JN
 by_cases h5:y=1
 ·have xJ:=HN.out.1
  obtain⟨x2,t2,rfl⟩:∃ x2 t2,t=x2::t2:=by
   cases t with
   | nil=>simp at xJ;omega
   | cons x2 t2=>exact⟨x2,t2,rfl⟩
  have c1:=ob.out 1 (by simp)
  simp only[List.getElem_cons_succ,List.getElem_cons_zero]at c1
  have lx2:=x2.toNat_lt;have ti:(1:Int)<(n:Int):=by simp at xJ;omega
  have g1:(x::x2::t2).getD 1 0=x2:=rfl;rw[g1]at E2;subst h5;clear xJ g1
  cases o2:xE x2 with
  | true =>
   have SH2:Hid (∀ w1,Calls Tryz.prog 33 #[.int .u8 (x2.toNat:Int)] w1 fun e w'=>e=.returned (.bool true)∧w'=w1):=by rw[← o2];exact fun w1=>vH x2 w1
   have E:Hid (yx (x::x2::t2)=.error 4):=by rw[Hid,E2.out,if_pos ⟨rfl,o2⟩]
   clear o2 E2;go_enter Tryz.func27,Tryz.ntmps27
   go_wp2_with fail
   refine(SH.out _).mono ?_
   rintro e w1 ⟨rfl,rfl⟩
   go_wp2_with fail
   refine(SH2.out _).mono ?_
   rintro e w1 ⟨rfl,rfl⟩
   go_wp2_with fail
   go_ret3
   exact ConnSaid.err E.out rfl (Below.refl _ _)
  | false =>
  have SH2:Hid (∀ w1,Calls Tryz.prog 33 #[.int .u8 (x2.toNat:Int)] w1 fun e w'=>e=.returned (.bool false)∧w'=w1):=by rw[← o2];exact fun w1=>vH x2 w1
  have E:Hid (yx (x::x2::t2)=.ok ((x2::t2).take 1,2)):=by rw[Hid,E2.out,if_neg (by rw[o2];simp)]
  clear o2 E2;go_enter Tryz.func27,Tryz.ntmps27
  go_wp2_with fail
  refine(SH.out _).mono ?_
  rintro e w1 ⟨rfl,rfl⟩
  go_wp2_with fail
  refine(SH2.out _).mono ?_
  rintro e w1 ⟨rfl,rfl⟩
  go_wp2_with fail
  refine(fin.out _ _ _ rfl (Below.refl _ _) (fun _=>rfl)).mono ?_
  rintro e w2 ⟨r,rfl,hf⟩
  go_wp2_with fail
  go_ret3
  exact ConnSaid.ok E.out rfl (hf.step (zb _ _))
 have z5:((y:Int)==1)=false:=by simp;omega
 have z5':((y:Int)=1)=False:=eq_false (by omega);have E:Hid (yx (x::t)=.ok (t.take y,1+y)):=by rw[Hid,E2.out,if_neg (fun h=>h5 h.1)]
 clear E2 h5;go_enter Tryz.func27,Tryz.ntmps27
 go_wp2_with fail
 refine(SH.out _).mono ?_
 rintro e w1 ⟨rfl,rfl⟩
 go_wp2_with fail
 all_goals first | refine(fin.out _ (some ⟨b,off+1,none⟩) _ rfl (Below.refl _ _) (fun _=>rfl)).mono ?_ | refine(fin.out _ (some ⟨b,off,none⟩) 0 (by omega) (Below.refl _ _) (fun h=>absurd (show y=0 by omega) h)).mono ?_
 all_goals
  rintro e w2 ⟨r,rfl,hf⟩
  go_wp2_with fail
  go_ret3
  exact ConnSaid.ok E.out (by simp) (hf.step (zb _ _))
theorem OwnI.lit {w:World}{H:Snap}{l:List Itm}{cs:List Value}(h:ItemsC H cs l) (base:Nat) (hb:base≤w.heap.size) (hm:l.length≤4096) :
  OwnI (w.alloc (.cells cs.toArray 73)) base (.slice (some ⟨w.heap.size,0,none⟩) l.length l.length) H l:=by
 refine⟨cs,h,h.len,.inr ⟨w.heap.size,l.length,cs.toArray,rfl,hb,heap_alloc_new w _,Nat.le_refl _,by simp only[maxLen];omega, ?_, ?_⟩⟩
 ·simpa using h.len
 rw[← h.len];simp
end Go.Proofs.YtnfoilblmhbobaaGreatDoor
