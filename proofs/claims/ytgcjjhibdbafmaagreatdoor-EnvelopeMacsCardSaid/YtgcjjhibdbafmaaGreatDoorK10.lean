/- squeezed. Walks: the references' Copy, List, -/
import Derived.Test.YtgcjjhibdbafmaaGreatDoorK09
set_option linter.unusedVariables false
set_option linter.unusedSimpArgs false
set_option maxRecDepth 100000
set_option maxHeartbeats 6400000
namespace Go.Proofs.YtgcjjhibdbafmaaGreatDoor
open Go.RowKit
theorem IsItem.build {H:Snap}{x:Itm}{ba:Option Addr}{bc:Nat}{ia:Option Addr}{ic:Nat}(hk : -9223372036854775808≤x.kind∧x.kind≤9223372036854775807) (hn:x.n<18446744073709551616) (hb:IsBytes H ba bc x.bytes)
  (h1:x.items.length≤ic) (h2:ic≤9223372036854775807) (he:0<x.items.length→∃ b off,ia=some ⟨b,off,none⟩∧IsElems H b off x.items):IsItem H ba bc ia ic x:=by
 cases x
 rw[IsItem]
 exact⟨⟨hk.1,hk.2,hn,h1,h2⟩,hb,he⟩
def CopySaid (x:Itm):Prop:=∀ (H:Snap) (k n:Int) (ba:Option Addr) (bl bc:Nat) (ia:Option Addr) (il ic:Nat) (w:World),Modest x→ItemA H k n ba bl bc ia il ic x→Holds w H→
 Calls Tryz.prog 67 #[.agg #[.int .i64 k,.int .u64 n,.slice ba bl bc,.slice ia il ic]] w fun e w'=>∃ v,e=.returned v∧Gives w H x v w'
theorem copy_step (x:Itm) (ih:∀ y:Itm,cnt y<cnt x→CopySaid y):CopySaid x:=by
 intro H k n ba bl bc ia il ic w hm hx hH
 obtain⟨rfl,rfl,rfl,rfl,hxi⟩:=hx.eqs_;have HX:=Hh hxi;have HM:=Hh hm;have hml:=hm.parts;have hB:=((Blk.new w 26 #[.int .i64 x.kind,.int .u64 x.n,.slice ba x.bytes.length bc,.slice ia x.items.length ic]).alloc zeroO).drew;have hT:=(Blk.new (w.alloc (itemO x ba bc ia ic)) 26 #[.int .i64 0,.int .u64 0,.slice none 0 0,.slice none 0 0]).drew
 simp only[size_alloc]at hT
 have hb:=((below_box w (itemO x ba bc ia ic)).alloc (by simp) zeroO).drew;have hHx:Holds ((w.alloc (itemO x ba bc ia ic)).alloc zeroO).drew H:=((hH.alloc _).alloc _).drew;have hil:x.items.length≤9223372036854775807:=by omega
 have hbl:x.bytes.length≤1099511627776:=hml.1;clear hx hxi hm hml;go_enter Tryz.func67,Tryz.ntmps67
 go_upto_region 1 with fail
 go_cut [3] (fun s3 wx=>∃ N BA BC H1,s3=.pointer (some ⟨N,0,none⟩)∧Blk wx N 26 #[.int .i64 x.kind,.int .u64 x.n,.slice BA x.bytes.length BC,.slice none 0 0]∧Blk wx w.heap.size 26 #[.int .i64 x.kind,.int .u64 x.n,.slice ba x.bytes.length bc,.slice ia x.items.length ic]∧
  Blk wx (w.heap.size+1) 26 #[.int .i64 0,.int .u64 0,.slice none 0 0,.slice none 0 0]∧Grows w H wx H1∧IsBytes H1 BA BC x.bytes∧H1 N=none∧H1 (w.heap.size+1)=none∧w.heap.size+1<N)
 case first =>
  refine wp_region_ways 9 (fun w'=>w'.cell? ⟨w.heap.size,0,none⟩=some (.int .i64 x.kind)∧w'.cell? ⟨w.heap.size,1,none⟩=some (.int .u64 x.n)∧w'.cell? ⟨w.heap.size,2,none⟩=some (.slice ba x.bytes.length bc)) (by kernel_rfl) (⟨hB.cell 0 rfl,hB.cell 1 rfl,hB.cell 2 rfl⟩) (fun hHeld=>?_)
  refine Tk 0 rfl hHeld ?_
  refine Tk 1 rfl hHeld ?_
  refine Tk 2 rfl hHeld ?_
  refine Tk 3 rfl hHeld ?_
  refine Tk 4 rfl hHeld ?_
  refine Tk 5 rfl hHeld ?_
  refine Ways.two (i:=6) (j:=8) rfl rfl (by kernel_rfl) (fun K hK=>?_) (fun K hK=>?_)
  ·rw[if_pos (by rfl)]
   refine wp_app_bytes (.const (.slice none 0 0)) (.tmp 12) rfl _ (.slice none 0 0) [] rfl (OwnB.nil _ _) ba _ bc x.bytes rfl rfl (Src.of_row HX.out.bytes.row hHx) (by simpa using hbl) (Nat.le_refl _) fun v' w5 hO hg hat=>?_
   rw[List.nil_append]at hO;have hbq:=grown_none (by simpa [Value.ownBlock] using hg);obtain⟨BA,BC,rfl,_⟩:=hO.form
   try have hne:∀ q,(Value.slice BA x.bytes.length BC).ownBlock=some q→q≠w.heap.size+1+1:=fun q hq e=>by have h1:=(hO.lt q hq).1;have h2:=hP.lt;(try simp only[drew_heap,size_alloc]at h1 h2);omega
   have hO2:∀ q,(Value.slice BA x.bytes.length BC).ownBlock=some q→w.heap.size+1<q:=fun q hq=>by have h1:=(hO.lt q hq).1;have h2:=hT.lt;(try simp only[drew_heap,size_alloc]at h1 h2);omega
   have hB:=hB.below hbq;have hT:=hT.below hbq
   try have hP:=hP.below hbq
   have hb:=hb.trans (hbq.mono hb.size);have hHx:=hHx.below hbq (Nat.le_refl _)
   refine Ko hK ?_ fun hHeld=>?_
   ·exact⟨hB.cell 0 rfl,hB.cell 1 rfl,hB.cell 2 rfl⟩
   clear hK K
   refine Tk 7 rfl hHeld ?_
   refine To 8 rfl fun K hK=>?_
   go_simp
   have hP:=below_newBlk hb 26 #[.int .i64 0,.int .u64 0,.slice none 0 0,.slice none 0 0]
   try have hne:∀ q,(Value.slice BA x.bytes.length BC).ownBlock=some q→q≠w5.heap.size:=fun q hq e=>by have h1:=(hO.lt q hq).2;omega
   have hNN:=hT.lt
   try simp only[drew_heap,size_alloc]at hP hNN
   have hB:=hB.alloc zeroO;have hT:=hT.alloc zeroO
   try have hO:=hO.alloc zeroO
   have hHx:=hHx.alloc zeroO;have hb:=hb.alloc hb.size zeroO
   refine Ko hK ?_ fun hHeld=>?_
   ·exact⟨hB.cell 0 rfl,hB.cell 1 rfl,hB.cell 2 rfl⟩
   clear hK K
   refine To 9 rfl fun K hK=>?_
   rw[if_pos (by rfl)]
   refine wp_store_item _ _ _ rfl _ _ rfl rfl _ _ hP size_item rfl (one4 _ _ _ _ rfl rfl rfl rfl) fun w6 hP hg6=>?_
   have hB:=hB.gr hg6 (by omega);have hT:=hT.gr hg6 (by omega);have hb:=hb.grown hg6 hb.size (by rintro q ⟨⟩;omega);have hHx:=hHx.grown hg6 (by rintro q ⟨⟩;exact hH.none_of_ge (by omega));have hO:=hO.kept hg6 (by cases hv:(Value.slice BA x.bytes.length BC).ownBlock with | none=>exact .inl rfl | some q=>exact .inr (fun e=>by injection e with e;exact hne q hv e))
   refine Kz hK ?_
   clear hK K
   refine Wd ?_
   obtain⟨H1,hl1,hh1,hf1,hz1,hi1⟩:=hO.snap hHx (fun q hq=>hH.none_of_ge (by have:=hO2 q (by cases BA <;> simp_all [Value.ownBlock]);omega))
   have hN1:∀ q,w.heap.size≤q→(∀ q',(Value.slice BA x.bytes.length BC).ownBlock=some q'→q'≠q)→H1 q=none:=fun q hq hd=>by
    cases hq1:H1 q with
    | none=>rfl
    | some o =>
     rcases hf1 q o hq1 with h | h
     ·rw[hH.none_of_ge hq]at h;cases h
     ·exact absurd rfl (hd q (by cases BA <;> simp_all [Value.ownBlock]))
   go_wp2_with fail
   go_meet
   exact⟨_,_,_,H1,rfl,hP,hB,hT,⟨hb,hl1,hh1,fun b o hb1=>(hf1 b o hb1).imp id fun h=>by have:=hO2 b (by cases BA <;> simp_all [Value.ownBlock]);omega⟩,hi1,hN1 _ (by omega) (fun q' hq'=>hne q' hq'),hN1 _ (by omega) (fun q' hq'=>by have:=hO2 q' hq';omega),by omega⟩
  ·go_simp
   have hP:=below_newBlk hb 26 #[.int .i64 0,.int .u64 0,.slice none 0 0,.slice none 0 0]
   try have hne:∀ q,(Value.slice BA x.bytes.length BC).ownBlock=some q→q≠w5.heap.size:=fun q hq e=>by have h1:=(hO.lt q hq).2;omega
   have hNN:=hT.lt
   try simp only[drew_heap,size_alloc]at hP hNN
   have hB:=hB.alloc zeroO;have hT:=hT.alloc zeroO
   try have hO:=hO.alloc zeroO
   have hHx:=hHx.alloc zeroO;have hb:=hb.alloc hb.size zeroO
   refine Ko hK ?_ fun hHeld=>?_
   ·exact⟨hB.cell 0 rfl,hB.cell 1 rfl,hB.cell 2 rfl⟩
   clear hK K
   refine To 6 rfl fun K hK=>?_
   rw[if_pos (by rfl)]
   refine wp_app_bytes (.const (.slice none 0 0)) (.tmp 12) rfl _ (.slice none 0 0) [] rfl (OwnB.nil _ _) ba _ bc x.bytes rfl rfl (Src.of_row HX.out.bytes.row hHx) (by simpa using hbl) (Nat.le_refl _) fun v' w5 hO hg hat=>?_
   rw[List.nil_append]at hO;have hbq:=grown_none (by simpa [Value.ownBlock] using hg);obtain⟨BA,BC,rfl,_⟩:=hO.form
   try have hne:∀ q,(Value.slice BA x.bytes.length BC).ownBlock=some q→q≠w.heap.size+1+1:=fun q hq e=>by have h1:=(hO.lt q hq).1;have h2:=hP.lt;(try simp only[drew_heap,size_alloc]at h1 h2);omega
   have hO2:∀ q,(Value.slice BA x.bytes.length BC).ownBlock=some q→w.heap.size+1<q:=fun q hq=>by have h1:=(hO.lt q hq).1;have h2:=hT.lt;(try simp only[drew_heap,size_alloc]at h1 h2);omega
   have hB:=hB.below hbq;have hT:=hT.below hbq
   try have hP:=hP.below hbq
   have hb:=hb.trans (hbq.mono hb.size);have hHx:=hHx.below hbq (Nat.le_refl _)
   refine Ko hK ?_ fun hHeld=>?_
   ·exact⟨hB.cell 0 rfl,hB.cell 1 rfl,hB.cell 2 rfl⟩
   clear hK K
   refine Tk 7 rfl hHeld ?_
   refine To 9 rfl fun K hK=>?_
   rw[if_pos (by rfl)]
   refine wp_store_item _ _ _ rfl _ _ rfl rfl _ _ hP size_item rfl (one4 _ _ _ _ rfl rfl rfl rfl) fun w6 hP hg6=>?_
   have hB:=hB.gr hg6 (by omega);have hT:=hT.gr hg6 (by omega);have hb:=hb.grown hg6 hb.size (by rintro q ⟨⟩;omega);have hHx:=hHx.grown hg6 (by rintro q ⟨⟩;exact hH.none_of_ge (by omega));have hO:=hO.kept hg6 (by cases hv:(Value.slice BA x.bytes.length BC).ownBlock with | none=>exact .inl rfl | some q=>exact .inr (fun e=>by injection e with e;exact hne q hv e))
   refine Kz hK ?_
   clear hK K
   refine Wd ?_
   obtain⟨H1,hl1,hh1,hf1,hz1,hi1⟩:=hO.snap hHx (fun q hq=>hH.none_of_ge (by have:=hO2 q (by cases BA <;> simp_all [Value.ownBlock]);omega))
   have hN1:∀ q,w.heap.size≤q→(∀ q',(Value.slice BA x.bytes.length BC).ownBlock=some q'→q'≠q)→H1 q=none:=fun q hq hd=>by
    cases hq1:H1 q with
    | none=>rfl
    | some o =>
     rcases hf1 q o hq1 with h | h
     ·rw[hH.none_of_ge hq]at h;cases h
     ·exact absurd rfl (hd q (by cases BA <;> simp_all [Value.ownBlock]))
   go_wp2_with fail
   go_meet
   exact⟨_,_,_,H1,rfl,hP,hB,hT,⟨hb,hl1,hh1,fun b o hb1=>(hf1 b o hb1).imp id fun h=>by have:=hO2 b (by cases BA <;> simp_all [Value.ownBlock]);omega⟩,hi1,hN1 _ (by omega) (fun q' hq'=>hne q' hq'),hN1 _ (by omega) (fun q' hq'=>by have:=hO2 q' hq';omega),by omega⟩
 case rest =>
  clear hB hT hb hHx;obtain⟨N,BA,BC,H1,rfl,hP,hB,hT,hG1,hi1,hn1,hn2,hNN⟩:=hcut;have c3:=hB.cell 3 rfl;have hNl:=hP.lt;have hO1:=OwnI.nil wc (N+1) H1;clear hB;go_wp2_with fail
  go_loopw [4,18] (fun v4 v18 wr=>∃ (j:Nat) (Hr:Snap) (VA:Option Addr) (vc vn:Nat),j≤x.items.length∧v18=.int .i64 j∧v4=.slice VA vn vc∧vn=(x.items.take j).length∧Grows w H wr Hr∧H1.le Hr∧OwnI wr (N+1) (.slice VA vn vc) Hr (x.items.take j)∧
   Blk wr N 26 #[.int .i64 x.kind,.int .u64 x.n,.slice BA x.bytes.length BC,.slice none 0 0]∧Blk wr (w.heap.size+1) 26 #[.int .i64 0,.int .u64 0,.slice none 0 0,.slice none 0 0]∧Hr N=none∧Hr (w.heap.size+1)=none∧(∀ q,(Value.slice VA vn vc).ownBlock=some q→Hr q=none)) (fun _ v18 _=>x.items.length-(intOf v18).toNat)
  case atStart=>exact⟨0,H1,_,_,_,Nat.zero_le _,rfl,rfl,rfl,hG1,Snap.le.refl _,hO1,hP,hT,hn1,hn2,by intro q hq;simp[Value.ownBlock]at hq⟩
  case round =>
   clear hP hT hG1 hn1 hn2 hO1;obtain⟨j,Hr,VA,vc,vn,hj,rfl,rfl,hvn,hGr,hle,hOr,hPr,hTr,hNr,hTn,hnr⟩:=hrel;have HV:=Hh hvn;clear hvn
   by_cases hlt:j<x.items.length
   ·obtain⟨ib,io,hia,hel⟩:=HX.out.items (by omega);obtain⟨eba,ebc,eia,eic,q0,q1,q2,q3,hex⟩:=hel.get j hlt;subst hia;have p0:=(hGr.holds.mono hGr.le).cell q0;have p1:=(hGr.holds.mono hGr.le).cell q1;have p2:=(hGr.holds.mono hGr.le).cell q2;have p3:=(hGr.holds.mono hGr.le).cell q3;have hG2:=hGr.alloc (itemO x.items[j] eba ebc eia eic);have hO2:=hOr.alloc (itemO x.items[j] eba ebc eia eic);have hP2:=hPr.alloc (itemO x.items[j] eba ebc eia eic);have hT2:=hTr.alloc (itemO x.items[j] eba ebc eia eic);have IH:=Hh (ih x.items[j] (cnt_items x j hlt) Hr _ _ eba _ ebc eia _ eic _ (HM.out.parts.2.2.get j hlt) (hex.mono hGr.le).arg hG2.holds);have HT:=Hh (show x.items.take (j+1)=x.items.take j++[x.items[j]] from List.take_succ_eq_append_getElem hlt);have hlm:=HM.out.parts.2.1
    generalize x.items[j]'hlt=y at *
    clear q0 q1 q2 q3 hel hex hOr;go_wp2_with fail
    refine IH.out.mono ?_
    rintro e w6 ⟨v6,rfl,ja,jb,jc,jd,H6,rfl,hG6,hi6⟩
    have hO6:=((hO2.below hG6.below).mono hG6.le).alloc (.cells (itemC y ja jb jc jd).toArray 26);have hG7:=(hG2.trans hG6).alloc (.cells (itemC y ja jb jc jd).toArray 26);have hP6:=(hP2.below hG6.below).alloc (.cells (itemC y ja jb jc jd).toArray 26);have hT6:=(hT2.below hG6.below).alloc (.cells (itemC y ja jb jc jd).toArray 26);have hn6:∀ q,(Value.slice VA vn vc).ownBlock=some q→H6 q=none:=fun q hq=>hG6.none (hnr q hq) (hO2.lt q hq).2
    have hN6:=hG6.none hNr hP2.lt;have hTn6:=hG6.none hTn hT2.lt;have hle6:=hle.trans hG6.le;clear p0 p1 p2 p3 IH hGr hPr hTr hG2 hG6 hP2 hT2;go_wp2_with (at_builtin;refine stop_in ?_)
    unfold Stopped
    obtain rfl:=HV.out
    refine wpList_app_items rfl (.tmp 22) (.tmp 25) rfl (N+1) (.slice VA _ vc) H6 _ rfl hO6 _ 1 _ (itemC y ja jb jc jd) [y] rfl rfl (ItemsC.one hi6) (Src.new _ _ _ _ rfl _ rfl) (by rw[List.length_take];simp;omega) (by have:=hP6.lt;simp only[size_alloc]at this⊢;omega) fun v' w7 hO7 hg7 hat7=>?_
    obtain⟨VA',vc',rfl,_⟩:=hO7.form;have hG8:=hG7.grownRow hn6 (fun q hq=>by have:=(hO6.lt q hq).1;omega) hg7;have hP7:=hP6.grown hg7 (fun e=>by have:=(hO6.lt N e).1;omega);have hT7:=hT6.grown hg7 (fun e=>by have:=(hO6.lt _ e).1;omega)
    have hn7:∀ q,(Value.slice VA' (x.items.take j++[y]).length vc').ownBlock=some q→H6 q=none:=fun q hq=>by
     rcases hat7 with h | ⟨g',h1,h2⟩
     ·exact hn6 q (by rw[← h,hq])
     ·rw[hq]at h1;injection h1 with h1
      subst h1
      exact hG7.hidden h2
    have hl9:(x.items.take j++[y]).length=j+1:=by rw[← HT.out,List.length_take];omega
    rw[hl9]at hO7 hn7;rw[hl9];rw[← HT.out]at hO7;clear hl9;have hj63:(j:Int)+1≤9223372036854775807:=by omega
    clear hO6 hg7 hat7 hn6 hG7 hP6 hT6 hi6;go_wp2_with fail
    go_roundw
    case rel=>exact⟨j+1,H6,VA',vc',_,by omega,by go_num,rfl,by rw[List.length_take];omega,hG8,hle6,hO7,hP7,hT7,hN6,hTn6,hn7⟩
    case measure=>simp[intOf];omega
   ·have hkl:j=x.items.length:=by omega
    subst hkl;rw[List.take_length]at hOr;have HV2:Hid (vn=x.items.length):=by have:=HV.out;rw[List.take_length]at this;exact this
    clear HV;obtain⟨H8,hl8,hh8,hf8,hz8,hle1,hle2,hel8⟩:=hOr.snap hGr.holds (fun g hg=>hnr g (by cases VA <;> simp_all [Value.ownBlock]));have hlow:∀ b,VA.map (·.block)=some b→N+1≤b:=fun b hb=>(hOr.lt b (by cases VA <;> simp_all [Value.ownBlock])).1
    have hGz:Grows w H wr H8:=⟨hGr.below,hGr.le.trans hl8,hh8,fun b o hb=>by
     rcases hf8 b o hb with h | h
     ·exact hGr.fresh b o h
     ·exact .inr (by have:=hlow b h;omega)⟩
    have hkeep:∀ q,q≤N→Hr q=none→H8 q=none:=fun q hq h0=>by
     cases h8:H8 q with
     | none=>rfl
     | some o =>
      rcases hf8 q o h8 with h | h
      ·rw[h0]at h;cases h
      ·have:=hlow q h;omega
    have hbd:=HX.out.bounds;have HI:=Hh (IsItem.build (x:=x) (H:=H8) (ba:=BA) (bc:=BC) (ia:=VA) (ic:=vc) ⟨hbd.1,hbd.2.1⟩ hbd.2.2.1 (hi1.mono (hle.trans hl8)) hle1 hle2 hel8);have hNz:=hkeep N (Nat.le_refl _) hNr;have hTz:=hkeep (w.heap.size+1) (by omega) hTn;clear hbd hel8 hle1 hle2 hf8 hOr hGr hnr hlow hkeep hNr hTn hz8;go_wp2_with (with_reducible refine stop_store ?_)
    refine wpList_store_cell rfl _ _ _ rfl rfl N 3 (.slice VA vn vc) rfl rfl _ _ hPr size_items (by simp) rfl fun w9 hP9 hg9=>?_
    have hT9:=hTr.gr hg9 (by omega);have hG9:=hGz.grownOwn hNz (by omega) hg9;have r0:=hP9.cell 0 rfl;have r1:=hP9.cell 1 rfl;have r2:=hP9.cell 2 rfl;have r3:=hP9.cell 3 rfl;clear hPr hTr hGz;go_wp2_with (with_reducible refine stop_store ?_)
    refine stI hT9 fun w10 hT10 hg10=>?_
    have hG10:=hG9.grownOwn hTz (by omega) hg10;go_wp2_with fail
    refine ret_row rfl rfl hT10 rfl rfl size_item rfl ?_
    obtain rfl:=HV2.out
    exact⟨_,rfl,BA,BC,VA,vc,H8,rfl,hG10,HI.out⟩
theorem ref_Copy (x:Itm):CopySaid x:=by
 have main:∀ N,∀ x:Itm,cnt x≤N→CopySaid x:=by
  intro N
  induction N with
  | zero =>
   intro x hx
   have:0<cnt x:=by cases x;rw[cnt];omega
   omega
  | succ N ih =>
   intro x hx
   exact copy_step x fun y hy=>ih y (by omega)
 exact main _ x (Nat.le_refl _)
theorem size_hdr:(Tryz.prog.info? 28).map (·.size)=some 8:=by kernel_rfl
theorem ref12_Empty (w:World) :
  Calls Tryz.prog 15 #[] w fun e w'=>e=.returned (.agg (hdrC (.mk 5 0 [] []) ⟨none,0,none,0⟩ (.mk 5 0 [] []) ⟨none,0,none,0⟩))∧Below w.heap.size w w':=by
 go_enter Tryz.func15,Tryz.ntmps15
 go_wp2_with fail
 refine ret_row rfl rfl (Blk.new _ _ _) rfl rfl size_hdr rfl ?_
 exact⟨rfl,below_box _ _⟩
theorem law13_short {H:Snap}{A:Option Addr}{c:Nat}{ls:List (List UInt8)}(hr:IsRows H A c ls) (w:World) (hH:Holds w H) :
  Calls Tryz.prog 4 #[.slice A ls.length c] w fun e w'=>e=.returned (.bool (ls.all fun l=>decide (l.length≤600)))∧w=w':=by
 have hc:=hr.max;have hle:=hr.le;have hl:ls.length≤9223372036854775807:=by omega
 have HR:=Hh hr;clear hr hc hle;go_enter Tryz.func4,Tryz.ntmps4
 go_wp2_with fail
 go_loop [7] (fun v7=>∃ k:Nat,k≤ls.length∧v7=.int .i64 k∧((ls.drop k).all fun l=>decide (l.length≤600))=(ls.all fun l=>decide (l.length≤600))) (fun v7=>ls.length-(intOf v7).toNat)
 case atStart=>exact⟨0,Nat.zero_le _,rfl,rfl⟩
 case round =>
  obtain⟨k,hk,rfl,hs⟩:=hrel;have HS:=Hh hs;clear hs
  by_cases hlt:k<ls.length
  ·obtain⟨ib,io,hia,hrow⟩:=HR.out.rows (by omega);obtain⟨Aj,cj,q0,_⟩:=hrow k hlt;subst hia;have p0:=hH.cell q0;have hst:Hid ((ls.all fun l=>decide (l.length≤600))=(decide (ls[k].length≤600)&&(ls.drop (k+1)).all fun l=>decide (l.length≤600))):=by rw[Hid,← HS.out,List.drop_eq_getElem_cons hlt,List.all_cons]
   generalize ls[k]'hlt=x at *
   have SH:=Hh (fun w1:World=>mk_Short Aj x.length cj w1);clear q0 hrow
   by_cases h6:x.length≤600
   ·have d6:decide (x.length≤600)=true:=decide_eq_true h6;have EN:Hid (((ls.drop (k+1)).all fun l=>decide (l.length≤600))=(ls.all fun l=>decide (l.length≤600))):=by rw[Hid,hst.out,d6,Bool.true_and]
    rw[d6]at SH;clear h6 d6;go_wp2_with fail
    refine(SH.out _).mono ?_
    rintro e w' ⟨rfl,rfl⟩
    go_wp2_with fail
    go_round
    case rel=>exact⟨k+1,by omega,by go_num,EN.out⟩
    case measure=>simp[intOf];omega
   ·have d6:decide (x.length≤600)=false:=decide_eq_false h6;have EN:Hid ((ls.all fun l=>decide (l.length≤600))=false):=by rw[Hid,hst.out,d6,Bool.false_and]
    rw[d6]at SH;clear h6 d6;go_wp2_with fail
    refine(SH.out _).mono ?_
    rintro e w' ⟨rfl,rfl⟩
    go_wp2_with fail
    go_ret
    exact⟨by rw[EN.out];rfl,rfl⟩
  ·have hkl:k=ls.length:=by omega
   subst hkl;have EN:Hid ((ls.all fun l=>decide (l.length≤600))=true):=by rw[Hid,← HS.out,List.drop_length];rfl
   go_wp2_with fail
   go_ret
   exact⟨by rw[EN.out];rfl,rfl⟩
structure IsRowI (H:Snap) (A:Option Addr) (c:Nat) (l:List Itm):Prop where
 le:l.length≤c
 max:c≤9223372036854775807
 elems:0<l.length→∃ b off,A=some ⟨b,off,none⟩∧IsElems H b off l
theorem IsRowI.mono {H K:Snap}{A:Option Addr}{c:Nat}{l:List Itm}(h:IsRowI H A c l) (hl:H.le K):IsRowI K A c l :=
 ⟨h.le,h.max,fun h0=>by obtain⟨b,off,e,he⟩:=h.elems h0;exact⟨b,off,e,he.mono hl⟩⟩
theorem IsRowI.item {H:Snap}{A:Option Addr}{c:Nat}{l:List Itm}(h:IsRowI H A c l) (k:Int) (hk:0≤k∧k≤8) (n:Nat) (hn:n<18446744073709551616):IsItem H none 0 A c (.mk k n [] l):=by
 rw[IsItem]
 exact⟨⟨by omega,by omega,hn,h.le,h.max⟩,IsBytes.nil _,h.elems⟩
theorem IsItem.row {H:Snap}{ba:Option Addr}{bc:Nat}{ia:Option Addr}{ic:Nat}{x:Itm}(h:IsItem H ba bc ia ic x):IsRowI H ia ic x.items:=⟨h.bounds.2.2.2.2.2.1,h.bounds.2.2.2.2.2.2,h.items⟩
theorem ref_List {H:Snap}{A:Option Addr}{c:Nat}{l:List Itm}(hr:IsRowI H A c l) (hm:ModestL l) (hl:l.length≤1099511627776) (w:World) (hH:Holds w H) :
  Calls Tryz.prog 44 #[.slice A l.length c] w fun e w'=>∃ v,e=.returned v∧Gives w H (.mk 4 0 [] l) v w':=by
 have hT:=Blk.new w 26 #[.int .i64 0,.int .u64 0,.slice none 0 0,.slice none 0 0];have hG:=(Grows.refl hH).alloc zeroO;have C:=Hh (ref_Copy (.mk 4 0 [] l) H 4 0 none 0 0 A l.length c _ (by rw[Modest];exact⟨by simp,hl,hm⟩) (hr.item 4 (by omega) 0 (by omega)).arg hG.holds);have hn0:H w.heap.size=none:=hH.none_of_ge (Nat.le_refl _);go_enter Tryz.func44,Tryz.ntmps44
 go_wp2_with fail
 refine C.out.mono ?_
 rintro e w2 ⟨v,rfl,ba,bc,ia,ic,H2,rfl,hG2,hi2⟩
 have hT2:=hT.below hG2.below;have hGz:=hG.trans hG2;have hn2:=hG2.none hn0 hT.lt;clear C hG hG2;go_wp2_with (with_reducible refine stop_store ?_)
 refine stI hT2 fun w3 hT3 hg3=>?_
 have hG3:=hGz.grownOwn hn2 (Nat.le_refl _) hg3;go_wp2_with fail
 refine ret_row rfl rfl hT3 rfl rfl size_item rfl ?_
 exact⟨_,rfl,ba,bc,ia,ic,H2,rfl,hG3,hi2⟩
abbrev zeroH:Obj:=.cells (hdrC zeroItm ⟨none,0,none,0⟩ zeroItm ⟨none,0,none,0⟩) 28
def GivesH (w:World) (H:Snap) (p u:Itm) (v:Value) (w':World):Prop :=
 ∃ (a b:Ad) (H':Snap),v=.agg (hdrC p a u b)∧Grows w H w' H'∧IsItem H' a.ba a.bc a.ia a.ic p∧IsItem H' b.ba b.bc b.ia b.ic u
theorem ref12_Copy {H:Snap}{p u:Itm}(hmp:Modest p) (hmu:Modest u) {a b:Ad}(hp:IsItem H a.ba a.bc a.ia a.ic p) (hu:IsItem H b.ba b.bc b.ia b.ic u) (w:World) (hH:Holds w H) :
  Calls Tryz.prog 29 #[.agg (hdrC p a u b)] w fun e w'=>∃ v,e=.returned v∧GivesH w H p u v w':=by
 have hB:=((Blk.new w 28 (hdrC p a u b)).alloc zeroH).drew;have hT:=(Blk.new (w.alloc (.cells (hdrC p a u b) 28)) 28 (hdrC zeroItm ⟨none,0,none,0⟩ zeroItm ⟨none,0,none,0⟩)).drew
 simp only[size_alloc]at hT
 have hG:=(((Grows.refl hH).alloc (.cells (hdrC p a u b) 28)).alloc zeroH).drew;have hn0:H (w.heap.size+1)=none:=hH.none_of_ge (by omega);go_enter Tryz.func29,Tryz.ntmps29
 go_upto_region 1 with fail
 refine wp_region_ways 7 (fun w'=>w'.cell? ⟨w.heap.size,0,none⟩=some (.int .i64 p.kind)∧w'.cell? ⟨w.heap.size,1,none⟩=some (.int .u64 p.n)∧w'.cell? ⟨w.heap.size,2,none⟩=some (.slice a.ba p.bytes.length a.bc)∧w'.cell? ⟨w.heap.size,3,none⟩=some (.slice a.ia p.items.length a.ic)∧w'.cell? ⟨w.heap.size,4,none⟩=some (.int .i64 u.kind)∧w'.cell? ⟨w.heap.size,5,none⟩=some (.int .u64 u.n)∧w'.cell? ⟨w.heap.size,6,none⟩=some (.slice b.ba u.bytes.length b.bc)∧w'.cell? ⟨w.heap.size,7,none⟩=some (.slice b.ia u.items.length b.ic)) (by kernel_rfl) (⟨hB.cell 0 rfl,hB.cell 1 rfl,hB.cell 2 rfl,hB.cell 3 rfl,hB.cell 4 rfl,hB.cell 5 rfl,hB.cell 6 rfl,hB.cell 7 rfl⟩) (fun hHeld=>?_)
 refine Tk 0 rfl hHeld ?_
 refine Tk 1 rfl hHeld ?_
 refine Tk 3 rfl hHeld ?_
 refine Tk 4 rfl hHeld ?_
 refine To 2 rfl fun K hK=>?_
 go_simp
 refine(ref_Copy p H _ _ _ _ _ _ _ _ _ hmp hp.arg hG.holds).mono ?_
 rintro e w3 ⟨v3,rfl,ka,kb,kc,kd,H3,rfl,hG3,hi3⟩
 have hB:=hB.below hG3.below;have hn0:=hG3.none hn0 hT.lt;have hT:=hT.below hG3.below
 refine Ko hK ?_ fun hHeld=>?_
 ·exact⟨hB.cell 0 rfl,hB.cell 1 rfl,hB.cell 2 rfl,hB.cell 3 rfl,hB.cell 4 rfl,hB.cell 5 rfl,hB.cell 6 rfl,hB.cell 7 rfl⟩
 clear hK K
 refine To 5 rfl fun K hK=>?_
 go_simp
 refine(ref_Copy u H3 _ _ _ _ _ _ _ _ _ hmu (hu.mono hG3.le).arg hG3.holds).mono ?_
 rintro e w4 ⟨v4,rfl,la,lb,lc,ld,H4,rfl,hG4,hi4⟩
 have hB:=hB.below hG4.below;have hn0:=hG4.none hn0 hT.lt;have hT:=hT.below hG4.below;have hG:=(hG.trans hG3).trans hG4
 refine Ko hK ?_ fun hHeld=>?_
 ·exact⟨hB.cell 0 rfl,hB.cell 1 rfl,hB.cell 2 rfl,hB.cell 3 rfl,hB.cell 4 rfl,hB.cell 5 rfl,hB.cell 6 rfl,hB.cell 7 rfl⟩
 clear hK K
 refine Tk 6 rfl hHeld ?_
 refine To 7 rfl fun K hK=>?_
 rw[if_pos (by rfl)]
 refine wp_store_item _ _ _ rfl _ _ rfl rfl _ _ hT size_hdr rfl (by kernel_rfl) fun w6 hT hg6=>?_
 refine Kz hK ?_
 clear hK K
 refine Wd ?_
 try simp only[List.getElem_toArray,List.getElem_cons_zero,List.getElem_cons_succ,List.set_cons_zero,List.set_cons_succ]
 have hGz:=hG.grownOwn hn0 (by omega) hg6;go_wp2_with fail
 refine ret_row rfl rfl hT rfl rfl size_hdr rfl ?_
 exact⟨_,rfl,⟨ka,kb,kc,kd⟩,⟨la,lb,lc,ld⟩,H4,rfl,hGz,hi3.mono hG4.le,hi4⟩
def bytesE (b:List UInt8):Except Nat (List UInt8×Nat) :=
 match prefixP b with
 | .err e=>.error e
 | .ok x k _=>if x.kind≠2∨x.bytes.length<1∨64<x.bytes.length then .error 4 else .ok (x.bytes,k)
def d4 (m:Int) (su:List Int) (gx cn:List UInt8) (b:List UInt8):Except Nat First :=
 match decExt b with
 | .error e=>.error e
 | .ok ext=>.ok ⟨m,su,gx,cn,ext⟩
def d3 (m:Int) (su:List Int) (gx:List UInt8) (b:List UInt8):Except Nat First :=
 match parseConn b with
 | .error e=>.error e
 | .ok (c,k4)=>d4 m su gx c (b.drop k4)
def d2 (m:Int) (su:List Int) (b:List UInt8):Except Nat First :=
 match bytesE b with
 | .error e=>.error e
 | .ok (gx,k3)=>d3 m su gx (b.drop k3)
def d1 (m:Int) (b:List UInt8):Except Nat First :=
 match prefixP b with
 | .err e=>.error e
 | .ok y k2 _=>match suitesE y with
  | .error e=>.error e
  | .ok l=>d2 m l (b.drop k2)
theorem u64_ret (x:Int):∃ n:Nat,Ending.returned (Value.int .u64 (IntKind.u64.wrap x))=.returned (.int .u64 (n:Int))∧n<18446744073709551616:=by
 refine⟨(IntKind.u64.wrap x).toNat, ?_, ?_⟩
 ·rw[Int.toNat_of_nonneg (by rw[IntKind.wrap_u64];omega)]
 ·rw[IntKind.wrap_u64];omega
theorem bits_ret (op:BinOp) (a b:Int):∃ n:Nat,Ending.returned (Value.int .u64 (bits op .u64 a b))=.returned (.int .u64 (n:Int))∧n<18446744073709551616:=u64_ret _
def WidenSaid (w:World) (e:Ending) (w':World):Prop:=(∃ n:Nat,e=.returned (.int .u64 (n:Int))∧n<18446744073709551616)∧w'=w
theorem ref_Widen5 (v:Nat) (hv:v<18446744073709551616) (w:World) :
  Calls Tryz.prog 95 #[.int .u64 (v:Int),.int .i64 5,.int .i64 10] w (WidenSaid w):=by
 have A2:bits .and .u64 (v:Int) 1023=((v%1024:Nat):Int):=and_mod v 10 (by omega) (by omega);have hM:v%1024≤1023:=by omega
 generalize v%1024=M at *
 have hz:¬ ((0:Int)<bits .and .u64 (v:Int) 1023/2048):=by rw[A2];omega
 have HZ:=Hh hz;clear A2 hM hz;go_enter Tryz.func95,Tryz.ntmps95
 go_wp2_with fail
 ·go_ret;exact⟨bits_ret ..,rfl⟩
 ·go_ret;exact⟨u64_ret ..,rfl⟩
 ·go_loop [12] (fun v12=>∃ k:Nat,k≤10∧v12=.int .i64 (k:Int)) (fun v12=>10-(intOf v12).toNat)
  case atStart=>exact⟨0,by omega,rfl⟩
  case round =>
   obtain⟨k,hk,rfl⟩:=hrel
   rcases(by omega:k≤9∨k=10) with h | rfl
   ·have hk1:(k:Int)+1≤10:=by omega
    have hk2:(0:Int)≤(k:Int)+1:=by omega
    have hk3:((k:Int)+1).toNat=k+1:=by omega
    go_wp2_with fail
    ·go_round
     case rel=>exact⟨k+1,by omega,by go_num⟩
     case measure=>simp[intOf];omega
    ·go_ret;exact⟨bits_ret ..,rfl⟩
   ·have hz:=HZ.out;go_wp2_with fail
    go_ret;exact⟨bits_ret ..,rfl⟩
 ·go_ret;exact⟨bits_ret ..,rfl⟩
theorem ref_Widen8 (v:Nat) (hv:v<18446744073709551616) (w:World) :
  Calls Tryz.prog 95 #[.int .u64 (v:Int),.int .i64 8,.int .i64 23] w (WidenSaid w):=by
 have A2:bits .and .u64 (v:Int) 8388607=((v%8388608:Nat):Int):=and_mod v 23 (by omega) (by omega);have hM:v%8388608≤8388607:=by omega
 generalize v%8388608=M at *
 have hz:¬ ((0:Int)<bits .and .u64 (v:Int) 8388607/16777216):=by rw[A2];omega
 have HZ:=Hh hz;clear A2 hM hz;go_enter Tryz.func95,Tryz.ntmps95
 go_wp2_with fail
 ·go_ret;exact⟨bits_ret ..,rfl⟩
 ·go_ret;exact⟨u64_ret ..,rfl⟩
 ·go_loop [12] (fun v12=>∃ k:Nat,k≤23∧v12=.int .i64 (k:Int)) (fun v12=>23-(intOf v12).toNat)
  case atStart=>exact⟨0,by omega,rfl⟩
  case round =>
   obtain⟨k,hk,rfl⟩:=hrel
   rcases(by omega:k≤22∨k=23) with h | rfl
   ·have hk1:(k:Int)+1≤23:=by omega
    have hk2:(0:Int)≤(k:Int)+1:=by omega
    have hk3:((k:Int)+1).toNat=k+1:=by omega
    go_wp2_with fail
    ·go_round
     case rel=>exact⟨k+1,by omega,by go_num⟩
     case measure=>simp[intOf];omega
    ·go_ret;exact⟨bits_ret ..,rfl⟩
   ·have hz:=HZ.out;go_wp2_with fail
    go_ret;exact⟨bits_ret ..,rfl⟩
 ·go_ret;exact⟨bits_ret ..,rfl⟩
end Go.Proofs.YtgcjjhibdbafmaaGreatDoor
