/- squeezed. Walks: the references' List, Copy  -/
import Derived.Test.YtliomcphdnppnaaGreatDoorK24
import Derived.Test.YtliomcphdnppnaaGreatDoorK23
set_option linter.unusedVariables false
set_option linter.unusedSimpArgs false
set_option maxRecDepth 100000
set_option maxHeartbeats 6400000
namespace Go.Proofs.YtliomcphdnppnaaGreatDoor
open Go.RowKit
theorem jaM{P:Prop}(h:P:=by exact jeo):P:=h
theorem jbk{P:Prop}(h:P:=by
 have hG:=h.alloc (.cells cs.toArray 26);obtain⟨H',hl,hh,hf,hz,h1,h2,h3⟩:=hO.snap hG.holds (fun q hq=>by cases hq;exact h.holds.none_of_ge (Nat.le_refl _))
 refine⟨H',⟨hG.below,hG.le.trans hl,hh,fun b o hb=>?_⟩,hl,⟨h1,h2,h3⟩⟩
 rcases hf b o hb with h4 | h4
 ·exact hG.fresh b o h4
 simp at h4;exact .inr (by have:=h.size;omega)):P:=h
theorem jeo{P:Prop}(h:P:=by exact⟨hB.cell 0 rfl,hB.cell 1 rfl,hB.cell 2 rfl,hB.cell 3 rfl,hB.cell 4 rfl,hB.cell 5 rfl,hB.cell 6 rfl,hB.cell 7 rfl⟩):P:=h
theorem jfZ{P:Prop}(h:P:=by have hT:=Blk.new w 26 #[.int .i64 0,.int .u64 0,.slice none 0 0,.slice none 0 0];exact hT):P:=h
theorem jf2{P:Prop}(h:P:=by have KL:IntKind.i64.wrap ((lv:Int)+1)=(lv:Int)+1:=IntWalk.i64_in _ (by omega);exact KL):P:=h
theorem jf8{P:Prop}(h:P:=by have uT:=wH.trans o9;have uG:=ti.rdg o9 (by omega);have dQ:=o9.hid yO ti.lt;exact And.intro uT (And.intro uG dQ)):P:=h
theorem jgd{P:Prop}(h:P:=by have WS:((q:Int)=0)=False:=eq_false (by have:=wL _ _ _ _ hp;omega);exact WS):P:=h
theorem jgw{P:Prop}(h:P:=by have yO:H w.heap.size=none:=hH.none_of_ge (Nat.le_refl _);exact yO):P:=h
structure IsRowI (H:Snap) (A:Option Addr) (c:Nat) (l:List Itm):Prop where
 le:l.length≤c
 max:c≤9223372036854775807
 elems:0<l.length→∃ b off,A=some ⟨b,off,none⟩∧IsElems H b off l
theorem IsRowI.mono {H K:Snap}{A:Option Addr}{c:Nat}{l:List Itm}(h:IsRowI H A c l) (hl:H.le K):IsRowI K A c l :=
 ⟨h.le,h.max,fun h0=>by obtain⟨b,off,e,he⟩:=h.elems h0;exact⟨b,off,e,he.mono hl⟩⟩
theorem IsRowI.item {H:Snap}{A:Option Addr}{c:Nat}{l:List Itm}(h:IsRowI H A c l) (k:Int) (hk:0≤k∧k≤8) (n:Nat) (hn:n<18446744073709551616):IsItem H none 0 A c (.mk k n [] l):=by
 rw[IsItem]
 exact⟨⟨by omega,by omega,hn,h.le,h.max⟩,IsBytes.nil _,h.elems⟩
theorem IsItem.row {H:Snap}{ba:Option Addr}{bc:Nat}{ia:Option Addr}{ic:Nat}{x:Itm}(h:IsItem H ba bc ia ic x):IsRowI H ia ic x.items:=⟨h.bounds.2.2.2.2.2.1,h.bounds.2.2.2.2.2.2,h.items⟩
theorem Nq {H:Snap}{A:Option Addr}{c:Nat}{l:List Itm}(hr:IsRowI H A c l) (hm:ModestL l) (hl:l.length≤1099511627776) (w:World) (hH:Holds w H) :
  Calls Tryz.prog 46 #[.slice A l.length c] w fun e w'=>∃ v,e=.returned v∧Gives w H (.mk 4 0 [] l) v w':=by
 have hT:=jfZ;have hG:=(Grows.refl hH).alloc zi;have C:=Hh (jZ (.mk 4 0 [] l) H 4 0 none 0 0 A l.length c _ (by rw[Modest];exact⟨by simp,hl,hm⟩) (hr.item 4 (by omega) 0 (by omega)).arg hG.holds);have yO:=jgw;go_enter Tryz.func46,Tryz.ntmps46
 go_wp2_with fail
 refine C.out.mono ?_
 rintro e w2 ⟨v,rfl,ba,bc,ia,ic,H2,rfl,yE,pi⟩
 have vU:=hT.below yE.below;have rt:=hG.trans yE;have tF:=yE.none yO hT.lt;clear C hG yE;go_wp2_with (with_reducible refine zx ?_)
 refine stI vU fun w3 ti ph=>?_
 have ye:=rt.grownOwn tF (Nat.le_refl _) ph;go_wp2_with fail
 refine zF rfl rfl ti rfl rfl zu rfl ?_
 exact⟨_,rfl,ba,bc,ia,ic,H2,rfl,ye,pi⟩
abbrev wG:Obj:=.cells (zA ze ⟨none,0,none,0⟩ ze ⟨none,0,none,0⟩) 28
def Vp (w:World) (H:Snap) (p u:Itm) (v:Value) (w':World):Prop :=
 ∃ (a b:Ad) (H':Snap),v=.agg (zA p a u b)∧Grows w H w' H'∧IsItem H' a.ba a.bc a.ia a.ic p∧IsItem H' b.ba b.bc b.ia b.ic u
theorem VS {H:Snap}{p u:Itm}(gn:Modest p) (dH:Modest u) {a b:Ad}(hp:IsItem H a.ba a.bc a.ia a.ic p) (hu:IsItem H b.ba b.bc b.ia b.ic u) (w:World) (hH:Holds w H) :
  Calls Tryz.prog 37 #[.agg (zA p a u b)] w fun e w'=>∃ v,e=.returned v∧Vp w H p u v w':=by
 have hB:=((Blk.new w 28 (zA p a u b)).alloc wG).drew;have hT:=(Blk.new (w.alloc (.cells (zA p a u b) 28)) 28 (zA ze ⟨none,0,none,0⟩ ze ⟨none,0,none,0⟩)).drew
 simp only[zr]at hT
 have hG:=(((Grows.refl hH).alloc (.cells (zA p a u b) 28)).alloc wG).drew;have yO:H (w.heap.size+1)=none:=hH.none_of_ge (by omega);go_enter Tryz.func37,Tryz.ntmps37
 go_upto_region 1 with fail
 refine zw 7 (fun w'=>w'.cell? ⟨w.heap.size,0,none⟩=some (.int .i64 p.kind)∧w'.cell? ⟨w.heap.size,1,none⟩=some (.int .u64 p.n)∧w'.cell? ⟨w.heap.size,2,none⟩=some (.slice a.ba p.bytes.length a.bc)∧w'.cell? ⟨w.heap.size,3,none⟩=some (.slice a.ia p.items.length a.ic)∧w'.cell? ⟨w.heap.size,4,none⟩=some (.int .i64 u.kind)∧w'.cell? ⟨w.heap.size,5,none⟩=some (.int .u64 u.n)∧w'.cell? ⟨w.heap.size,6,none⟩=some (.slice b.ba u.bytes.length b.bc)∧w'.cell? ⟨w.heap.size,7,none⟩=some (.slice b.ia u.items.length b.ic)) (by kernel_rfl) (⟨hB.cell 0 rfl,hB.cell 1 rfl,hB.cell 2 rfl,hB.cell 3 rfl,hB.cell 4 rfl,hB.cell 5 rfl,hB.cell 6 rfl,hB.cell 7 rfl⟩) (fun zy=>?_)
 refine Tk 0 rfl zy ?_
 refine Tk 1 rfl zy ?_
 refine Tk 3 rfl zy ?_
 refine Tk 4 rfl zy ?_
 refine To 2 rfl fun K hK=>?_
 go_simp
 refine(jZ p H _ _ _ _ _ _ _ _ _ gn hp.arg hG.holds).mono ?_
 rintro e w3 ⟨v3,rfl,ka,kb,kc,kd,H3,rfl,ye,nO⟩
 have hB:=hB.below ye.below;have yO:=ye.none yO hT.lt;have hT:=hT.below ye.below
 refine Ko hK ?_ fun zy=>?_
 ·exact jaM
 clear hK K
 refine To 5 rfl fun K hK=>?_
 go_simp
 refine(jZ u H3 _ _ _ _ _ _ _ _ _ dH (hu.mono ye.le).arg ye.holds).mono ?_
 rintro e w4 ⟨v4,rfl,la,lb,lc,ld,H4,rfl,yF,rm⟩
 have hB:=hB.below yF.below;have yO:=yF.none yO hT.lt;have hT:=hT.below yF.below;have hG:=(hG.trans ye).trans yF
 refine Ko hK ?_ fun zy=>?_
 ·exact jaM
 clear hK K
 refine Tk 6 rfl zy ?_
 refine To 7 rfl fun K hK=>?_
 rw[if_pos (by rfl)]
 refine zh _ _ _ rfl _ _ rfl rfl _ _ hT zD rfl (by kernel_rfl) fun w6 hT ws=>?_
 refine Kz hK ?_
 clear hK K
 refine Wd ?_
 try simp only[List.getElem_toArray,List.getElem_cons_zero,List.getElem_cons_succ,List.set_cons_zero,List.set_cons_succ]
 have rt:=hG.grownOwn yO (by omega) ws;go_wp2_with fail
 refine zF rfl rfl hT rfl rfl zD rfl ?_
 exact⟨_,rfl,⟨ka,kb,kc,kd⟩,⟨la,lb,lc,ld⟩,H4,rfl,rt,nO.mono yF.le,rm⟩
theorem cK {w wr:World}{H Hr:Snap}(_h:Grows w H wr Hr) {l:List Itm}{cs:List Value}(hc:ItemsC Hr cs l) (hm:l.length≤4096) :
  OwnI (wr.alloc (.cells cs.toArray 26)) wr.heap.size (.slice (some ⟨wr.heap.size,0,none⟩) l.length l.length) Hr l:=OwnI.lit hc _ (Nat.le_refl _) hm
theorem iH {w wr:World}{H Hr:Snap}(h:Grows w H wr Hr) {l:List Itm}{cs:List Value}(hc:ItemsC Hr cs l) (hm:l.length≤4096) :
  ∃ H',Grows w H (wr.alloc (.cells cs.toArray 26)) H'∧Hr.le H'∧IsRowI H' (some ⟨wr.heap.size,0,none⟩) l.length l:=by
 have hO:=cK h hc hm;exact jbk
theorem Td {p:List UInt8→Nat→PR}(hp:∀ b c q,p b c=.err q→q≠0):∀ (n:Nat) (b:List UInt8) (c:Nat) (last:Option (List UInt8)) (q:Nat),uk p n b c last=.err q→q≠0
 | 0,b,c,last,q,h=>by rw[uk]at h;cases h
 | n+1,b,c,last,q,h=>by
  rw[uk]at h
  split at h
  ·rename_i h1
   injection h with h
   subst h
   exact hp _ _ _ h1
  split at h
  ·rename_i h2
   injection h with h
   subst h
   unfold n9 at h2
   repeat' split at h2
   all_goals first | (injection h2 with h2;omega) | cases h2
  split at h
  ·rename_i h3
   injection h with h
   subst h
   exact hp _ _ _ h3
  split at h
  ·rename_i h4
   injection h with h
   subst h
   exact Td hp n _ _ _ _ h4
  cases h
theorem TR {p:List UInt8→Nat→PR}(hp:∀ b c q,p b c=.err q→q≠0):∀ (n:Nat) (b:List UInt8) (c:Nat) (q:Nat),qZ p n b c=.err q→q≠0
 | 0,b,c,q,h=>by rw[qZ]at h;cases h
 | n+1,b,c,q,h=>by
  rw[qZ]at h
  split at h
  ·rename_i h1
   injection h with h
   subst h
   exact hp _ _ _ h1
  split at h
  ·rename_i h4
   injection h with h
   subst h
   exact TR hp n _ _ _ h4
  cases h
theorem wL:∀ (d:Nat) (b:List UInt8) (c q:Nat),zQ d b c=.err q→q≠0:=by
 intro d
 induction d with
 | zero =>
  intro b c q h
  rw[zQ.eq_def]at h
  simp only at h
  repeat' split at h
  all_goals first
   | (injection h with h;omega)
   | cases h
   | skip
  ·rename_i h1;have:=lR h1;omega
  rename_i h1;have:=eE h1;omega
 | succ d ih =>
 intro b c q h
 rw[zQ.eq_def]at h
 simp only at h
 repeat' split at h
 all_goals first
  | (injection h with h;omega)
  | cases h
  | skip
 ·rename_i h1;have:=lR h1;omega
 ·rename_i h1;have:=eE h1;omega
 ·rename_i h1;exact ih _ _ _ h1
 ·rename_i h1;exact Td ih _ _ _ _ _ h1
 rename_i h1;exact TR ih _ _ _ _ h1
section
variable {d:Nat} {w:World} {H:Snap} {g:Nat} {A:Option Addr} {c:Nat} {l:List UInt8} {p cnt lv:Nat}
theorem Nl (ih:Yo d) (hTab:Tabs H) (hlv:lv+(d+1)=8) (hP:Psr 175 w g H A c l p cnt) (hc:cnt<256) {f n k:Nat}(hh:yr (l.drop p)=.ok (f,n,k)) (hk:f/32=6):Calls Tryz.prog 130 #[.pointer (some ⟨g,0,none⟩),.int .i64 (lv:Int)] w (ItemOut 175 w H g A c l p (zQ (d+1) (l.drop p) cnt)):=by
 obtain⟨wl,tT,vk,yO,c2⟩:=je8;have E0:=Hh (Rl d (l.drop p) cnt (by omega) hh hk);have S:(f:Int)/32=6:=by omega
 have Pf:¬ ((8:Int)≤(lv:Int)):=by omega
 have KL:=jf2;have Hi:(lv:Int)≤8:=by omega
 have sr:((cnt:Int)==256)=false:=by simp;omega
 obtain⟨uv,KC,HC⟩:=jfb;clear hc;go_enter Tryz.func130,Tryz.ntmps130
 go_wp2_with (with_reducible refine zx ?_)
 refine zj rfl _ _ _ rfl rfl g 2 (.int .i64 ((cnt:Int)+1)) rfl rfl _ _ tT.psr.blk wh (by simp) rfl fun w2 yQ yE=>?_
 obtain⟨xz,vU,PH⟩:=jfc;clear tT vk yQ yE c2 KC sr uv;go_wp2_with fail
 refine PH.out.mono ?_
 intro e w3 hs
 rw[HeadSaid,hh]at hs;obtain⟨rfl,wi,ye⟩:=hs;have HS:=vY hh;have pF:p+k≤l.length:=by have:=HS.le;rw[List.length_drop]at this;have:=hP.le;omega
 obtain⟨wH,ti,HF⟩:=jfd;clear xz vU wi ye PH HS hh;have IT:=ih w3 H g A c l (p+k) (cnt+1) (lv+1) hTab (by omega) wH.psr;rw[show((lv+1:Nat):Int)=(lv:Int)+1 by omega]at IT;have ITH:=Hh IT;rw[List.drop_drop]at E0;clear IT;go_wp2_with fail
 refine ITH.out.mono ?_
 intro e w4 hs
 cases hp:zQ d (l.drop (p+k)) (cnt+1) with
 | err q =>
  rw[hp,ItemOut]at hs;obtain⟨rfl,H4,p4,cnt4,o9⟩:=hs;have oG:((q:Int) != 0)=true:=by rw[bne_iff_ne];have:=wL _ _ _ _ hp;omega
  have WS:=jgd;have E:Hid (zQ (d+1) (l.drop p) cnt=.err q):=by rw[Hid,E0.out,hp]
  obtain⟨uT,uG,dQ⟩:=jf8;have hX:=Blk.new w4 26 #[.int .i64 0,.int .u64 0,.slice none 0 0,.slice none 0 0];have tU:=uT.alloc zi;have rF:=uG.alloc zi;have Gw:=Hh uT.psr.holds;have PP:=Hh uG.lt;clear o9 wH ti ITH hp E0 uT uG;have Gy:w.heap.size≤w4.heap.size:=Nat.le_of_lt PP.out;have QM:=(Holds.none_of_ge (w:=w4) (H:=H4) (Gw.out) (Nat.le_refl _))
  go_wp2_with (with_reducible refine zx ?_)
  refine stI hX fun w6 lh ws=>?_
  have vA:=tU.gb QM Gy wl ws;have ol:=rF.grown ws (by intro e;injection e with e;have:=PP.out;omega);clear tU rF hX ws lh;go_wp2_with (with_reducible refine zx ?_)
  refine stI ol fun wz hTy yS=>?_
  have wK:=vA.gb dQ (Nat.le_refl _) wl yS;exact jaF
 | ok x k' c' =>
 rw[hp,ItemOut]at hs;obtain⟨ja,jb,jc,jd,H4,rfl,o9,rm⟩:=hs;have E:Hid (zQ (d+1) (l.drop p) cnt=.ok (.mk 6 n [] [x]) (k+k') c'):=by rw[Hid,E0.out,hp]
 obtain⟨uT,uG,dQ⟩:=jf8;have hX:=Blk.new w4 26 #[.int .i64 0,.int .u64 0,.slice none 0 0,.slice none 0 0];have tU:=uT.alloc zi;have rF:=uG.alloc zi;have Gw:=Hh uT.psr.holds;have PP:=Hh uG.lt;clear o9 wH ti ITH hp E0 uT uG;have Gy:w.heap.size≤w4.heap.size:=Nat.le_of_lt PP.out;have QM:=(Holds.none_of_ge (w:=w4) (H:=H4) (Gw.out) (Nat.le_refl _))
 go_wp2_with (with_reducible refine zx ?_)
 refine stI hX fun w6 lh ws=>?_
 have vA:=tU.gb QM Gy wl ws;have ol:=rF.grown ws (by intro e;injection e with e;have:=PP.out;omega);have b0:=lh.cell 0 rfl;have b1:=lh.cell 1 rfl;have b2:=lh.cell 2 rfl;have b3:=lh.cell 3 rfl;obtain⟨H7,wJ,MK,hr7⟩:=iH (Grows.refl vA.psr.holds) (ItemsC.one rm) (by simp);have qz:=vA.grown wJ;have rG:=ol.alloc (.cells (zV x ja jb jc jd).toArray 26);have pm:=wJ.none dQ ol.lt;have mj:=Hh HF.out.n_lt;clear tU rF hX ws lh vA ol wJ;go_wp2_with (with_reducible refine zx ?_)
 refine stI rG fun wz hTy yS=>?_
 have wK:=qz.gb pm (Nat.le_refl _) wl yS;go_wp2_with fail
 refine zp rfl rfl hTy rfl rfl zu rfl ?_
 exact ItemOut.ok E.out rfl (by rw[← Nat.add_assoc];exact wK) (hr7.item 6 (by omega) n mj.out)
end
end Go.Proofs.YtliomcphdnppnaaGreatDoor
