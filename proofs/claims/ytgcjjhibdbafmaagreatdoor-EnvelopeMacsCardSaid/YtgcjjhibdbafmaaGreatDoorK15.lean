/- squeezed. Walks: envelope.Encode at the exam -/
import Derived.Test.YtgcjjhibdbafmaaGreatDoorK14
set_option linter.unusedVariables false
set_option linter.unusedSimpArgs false
set_option maxRecDepth 100000
set_option maxHeartbeats 25600000
namespace Go.Proofs.YtgcjjhibdbafmaaGreatDoor
open Go.RowKit
def envI:Itm:=.mk 6 16 [] [.mk 4 0 [] [bytesItm [],emptyM,bytesItm [1,2]]]
theorem envI_enc:encB envI=[208,131,64,160,66,1,2]:=by
 simp[envI,encB,encL,headB,numP,Itm.kind,Itm.n,Itm.bytes,Itm.items]
 decide
theorem envI_valid:validP envI=true:=by
 rw[validP_iff]
 refine⟨Good.of rfl (GoodL.of fun x hx=>?_) (fun h=>by simp[envI,Itm.kind]at h),by simp[envI,cnt,cntL],by rw[envI_enc];simp⟩
 simp only[envI,Itm.items,List.mem_singleton]at hx
 subst hx
 refine Good.of rfl (GoodL.of fun x hx=>?_) (fun h=>by simp[Itm.kind]at h)
 simp only[Itm.items,List.mem_cons,List.not_mem_nil,or_false]at hx
 rcases hx with rfl | rfl | rfl
 ·exact good_str 2 (.inl rfl) _ _ (fun h=>by omega)
 ·exact Good.of rfl (by simp only[Itm.items];rw[GoodL];trivial) (fun _=>rfl)
 ·exact good_str 2 (.inl rfl) _ _ (fun h=>by omega)
theorem lit_own {w wr:World}{H Hr:Snap}(_h:Grows w H wr Hr) {l:List Itm}{cs:List Value}(hc:ItemsC Hr cs l) (hm:l.length≤4096) :
  OwnI (wr.alloc (.cells cs.toArray 26)) wr.heap.size (.slice (some ⟨wr.heap.size,0,none⟩) l.length l.length) Hr l:=OwnI.lit hc _ (Nat.le_refl _) hm
theorem lit_snap {w wr:World}{H Hr:Snap}(h:Grows w H wr Hr) {l:List Itm}{cs:List Value}(hc:ItemsC Hr cs l) (hm:l.length≤4096) :
  ∃ H',Grows w H (wr.alloc (.cells cs.toArray 26)) H'∧Hr.le H'∧IsRowI H' (some ⟨wr.heap.size,0,none⟩) l.length l:=by
 have hO:=lit_own h hc hm;have hG:=h.alloc (.cells cs.toArray 26);obtain⟨H',hl,hh,hf,hz,h1,h2,h3⟩:=hO.snap hG.holds (fun q hq=>by cases hq;exact h.holds.none_of_ge (Nat.le_refl _))
 refine⟨H',⟨hG.below,hG.le.trans hl,hh,fun b o hb=>?_⟩,hl,⟨h1,h2,h3⟩⟩
 rcases hf b o hb with h4 | h4
 ·exact hG.fresh b o h4
 ·simp at h4;exact .inr (by have:=h.size;omega)
theorem env_Encode {H:Snap}(hTab:Tabs H) (w:World) (hH:Holds w H) (g:Nat) (hB:Blk w g 5 #[.int .u8 1,.int .u8 2]) :
  Calls Tryz.prog 14 #[.int .i64 16,.agg #[.int .i64 5,.int .u64 0,.slice none 0 0,.slice none 0 0,.int .i64 5,.int .u64 0,.slice none 0 0,.slice none 0 0,.slice (some ⟨g,0,none⟩) 2 2,.slice none 0 0]] w fun e w'=>∃ r,e=.returned (.tuple #[r,.int .i64 0])∧Fresh w [208,131,64,160,66,1,2] r w':=by
 have hE:=Blk.new w 34 #[.int .i64 5,.int .u64 0,.slice none 0 0,.slice none 0 0,.int .i64 5,.int .u64 0,.slice none 0 0,.slice none 0 0,.slice (some ⟨g,0,none⟩) 2 2,.slice none 0 0];have hG:=(Grows.refl hH).alloc (.cells #[.int .i64 5,.int .u64 0,.slice none 0 0,.slice none 0 0,.int .i64 5,.int .u64 0,.slice none 0 0,.slice none 0 0,.slice (some ⟨g,0,none⟩) 2 2,.slice none 0 0] 34)
 have hSB:Src w (some ⟨g,0,none⟩) (([1,2]:List UInt8).map byteV):=fun _=>⟨g,0,rfl,fun j v hj=>by
  match j,hj with
  | 0,hj=>cases hj;exact hB.cell 0 rfl
  | 1,hj=>cases hj;exact hB.cell 1 rfl⟩
 have P:=Hh (header_Protected hTab (p:=emptyM) (u:=emptyM) (a:=⟨none,0,none,0⟩) (b:=⟨none,0,none,0⟩) (IsItem.plain _ 5 0 (by omega) (by omega)) (IsItem.plain _ 5 0 (by omega) (by omega)) _ hG.holds);go_enter Tryz.func14,Tryz.ntmps14
 go_wp2_with fail
 refine P.out.mono ?_
 rintro e w1 (⟨hv,_⟩ | ⟨hv,r,rfl,hf⟩)
 ·rw[empty_valid]at hv;cases hv
 obtain⟨RA,rc,rfl,_⟩:=hf.own.form;have hE:=hE.below hf.2;have hG:=hG.below_ hf.2;have hsr:=hf.own.src;have hsb:=(hSB.alloc (.cells #[.int .i64 5,.int .u64 0,.slice none 0 0,.slice none 0 0,.int .i64 5,.int .u64 0,.slice none 0 0,.slice none 0 0,.slice (some ⟨g,0,none⟩) 2 2,.slice none 0 0] 34)).below hf.2;clear P hf hv hSB hB;have hp0:(protB emptyM).length=0:=by simp[protB,Itm.items]
 have hp1:protB emptyM=[]:=by simp[protB,Itm.items]
 rw[hp1]at hsr;rw[hp0];have e9:=hE.cell 9 rfl;clear hp0 hp1;go_upto_region 4 with fail
 go_cut [8] (fun s8 wx=>∃ (N:Nat) (H5:Snap),s8=.slice (some ⟨N,0,none⟩) 3 3∧Grows w H wx H5∧IsRowI H5 (some ⟨N,0,none⟩) 3 [bytesItm [],emptyM,bytesItm [1,2]])
 case first =>
  have hE:=hE.drew;have hG:=hG.drew;have hsr:Src w1.drew RA (([]:List UInt8).map byteV):=hsr;have hsb:Src w1.drew (some ⟨g,0,none⟩) (([1,2]:List UInt8).map byteV):=hsb
  refine wp_region_ways 9 (fun w'=>w'.cell? ⟨w.heap.size,4,none⟩=some (.int .i64 5)∧w'.cell? ⟨w.heap.size,5,none⟩=some (.int .u64 0)∧w'.cell? ⟨w.heap.size,6,none⟩=some (.slice none 0 0)∧w'.cell? ⟨w.heap.size,7,none⟩=some (.slice none 0 0)∧w'.cell? ⟨w.heap.size,8,none⟩=some (.slice (some ⟨g,0,none⟩) 2 2)) (by kernel_rfl) (⟨hE.cell 4 rfl,hE.cell 5 rfl,hE.cell 6 rfl,hE.cell 7 rfl,hE.cell 8 rfl⟩) (fun hHeld=>?_)
  refine Tk 0 rfl hHeld ?_
  refine Tk 2 rfl hHeld ?_
  refine Tk 3 rfl hHeld ?_
  refine Tk 4 rfl hHeld ?_
  refine Tk 5 rfl hHeld ?_
  refine Tk 6 rfl hHeld ?_
  refine To 1 rfl fun K hK=>?_
  go_simp
  refine(cbor_Bytes (A:=RA) (c:=rc) (l:=[]) rfl (by simp) w1.drew hsr hG.holds).mono ?_
  rintro e w3 ⟨v3,rfl,ka,kb,kc,kd,H3,rfl,hG3,hi3⟩
  have hE:=hE.below hG3.below;have hsb:=hsb.below hG3.below;have hG:=hG.trans hG3;obtain⟨x1,hx1⟩:∃ x,Itm.mk 2 0 [] []=x:=⟨_,rfl⟩
  rw[hx1]at hi3⊢
  refine Ko hK ?_ fun hHeld=>?_
  ·exact⟨hE.cell 4 rfl,hE.cell 5 rfl,hE.cell 6 rfl,hE.cell 7 rfl,hE.cell 8 rfl⟩
  clear hK K
  refine To 7 rfl fun K hK=>?_
  go_simp
  refine(cbor_Bytes (A:=some ⟨g,0,none⟩) (c:=2) (l:=[1,2]) rfl (by simp) _ hsb hG.holds).mono ?_
  rintro e w4 ⟨v4,rfl,la,lb,lc,ld,H4,rfl,hG4,hi4⟩
  have hE:=hE.below hG4.below;have hG:=hG.trans hG4;obtain⟨x3,hx3⟩:∃ x,Itm.mk 2 0 [1,2] []=x:=⟨_,rfl⟩
  rw[hx3]at hi4⊢
  refine Ko hK ?_ fun hHeld=>?_
  ·exact⟨hE.cell 4 rfl,hE.cell 5 rfl,hE.cell 6 rfl,hE.cell 7 rfl,hE.cell 8 rfl⟩
  clear hK K
  refine To 8 rfl fun K hK=>?_
  go_simp
  have hE:=hE.alloc (.cells #[.int .i64 x1.kind,.int .u64 x1.n,.slice ka x1.bytes.length kb,.slice kc x1.items.length kd,.int .i64 5,.int .u64 0,.slice none 0 0,.slice none 0 0,.int .i64 x3.kind,.int .u64 x3.n,.slice la x3.bytes.length lb,.slice lc x3.items.length ld] 26);have hcs:ItemsC H4 (itemC x1 ka kb kc kd++(itemC emptyM none 0 none 0++itemC x3 la lb lc ld)) [x1,emptyM,x3]:=(ItemsC.one (hi3.mono hG4.le)).app ((ItemsC.one (IsItem.plain _ 5 0 (by omega) (by omega))).app (ItemsC.one hi4));obtain⟨H5,hG5,hl5,hr5⟩:=lit_snap hG hcs (by simp)
  refine Ko hK ?_ fun hHeld=>?_
  ·exact⟨hE.cell 4 rfl,hE.cell 5 rfl,hE.cell 6 rfl,hE.cell 7 rfl,hE.cell 8 rfl⟩
  clear hK K
  refine To 9 rfl fun K hK=>?_
  go_simp
  refine Kz hK ?_
  clear hK K
  refine Wd ?_
  go_wp2_with fail
  go_meet
  exact⟨_,H5,rfl,hG5,by rw[← hx1,← hx3]at hr5;exact hr5⟩
 case rest =>
  clear hE hG hsr hsb e9;obtain⟨N,H5,rfl,hG,hr⟩:=hcut;obtain⟨y,hy⟩:∃ y,Itm.mk 4 0 [] [bytesItm [],emptyM,bytesItm [1,2]]=y:=⟨_,rfl⟩
  have hi:IsItem H5 none 0 (some ⟨N,0,none⟩) 3 y:=by rw[← hy];exact hr.item 4 (by omega) 0 (by omega)
  have hyc:itemC y none 0 (some ⟨N,0,none⟩) 3=[.int .i64 4,.int .u64 0,.slice none 0 0,.slice (some ⟨N,0,none⟩) 3 3]:=by rw[← hy];rfl
  obtain⟨H6,hG6,hl6,hr6⟩:=lit_snap hG (ItemsC.one hi) (by simp);rw[hyc]at hG6;have ha:ItemA H6 6 16 none 0 0 (some ⟨wc.heap.size,0,none⟩) 1 1 envI:=⟨rfl,rfl,rfl,rfl,by rw[envI,hy];exact hr6.item 6 (by omega) 16 (by omega)⟩
  have EN:=Hh (cbor_Encode (hTab.mono hG6.le) ha _ hG6.holds);have hbb:=hG6.below;clear hr hi hyc hG hG6 hl6 hr6 ha hy;go_wp2_with fail
  refine EN.out.mono ?_
  rintro e w9 (⟨hv,_⟩ | ⟨hv,r,rfl,hfr⟩)
  ·rw[envI_valid]at hv;cases hv
  ·rw[envI_enc]at hfr;have R:Hid (Fresh w [208,131,64,160,66,1,2] r w9):=⟨hfr.own.more hbb.size,hbb.trans (hfr.2.mono hbb.size)⟩
   clear hfr hv EN;go_wp2_with fail
   go_ret2
   exact⟨_,rfl,R.out⟩
theorem rows_snap {w wr:World}{H Hr:Snap}(h:Grows w H wr Hr) (t:TypeId) (vs:List Value) (ls:List (List UInt8)) (hm:ls.length≤4096)
  (hv:∀ j (hj:j<ls.length),∃ A c,vs[j]? = some (.slice A ls[j].length c)∧IsBytes Hr A c ls[j]) :
  ∃ H',Grows w H (wr.alloc (.cells vs.toArray t)) H'∧Hr.le H'∧IsRows H' (some ⟨wr.heap.size,0,none⟩) ls.length ls:=by
 have h0:Hr wr.heap.size=none:=h.holds.none_of_ge (Nat.le_refl _);have hG:=(h.alloc (.cells vs.toArray t)).withOwn (g:=wr.heap.size) h0 h.size (heap_alloc_new wr _)
 refine⟨_,hG,Snap.le_with h0,⟨Nat.le_refl _,by omega,fun _=>⟨wr.heap.size,0,rfl,fun j hj=>?_⟩⟩⟩
 obtain⟨A,c,h1,h2⟩:=hv j hj
 refine⟨A,c, ?_,h2.mono (Snap.le_with h0)⟩
 simp[Snap.cell?,Snap.with]
 simpa using h1
def macL:List UInt8:=[77,65,67,48]
theorem mac_enc:encB (inputI macL emptyM [] [[]])=[132,100,77,65,67,48,64,64,64]:=by
 simp[inputI,macL,protB,encB,encL,headB,numP,Itm.kind,Itm.n,Itm.bytes,Itm.items]
 decide
theorem mac_text:Lib.validD macL=true:=by kernel_rfl
theorem mac_code:inputE macL emptyM emptyM [] [[]]=0:=by
 rw[inputE,if_neg (by rw[empty_valid];simp),if_neg (by rw[mac_text];simp),if_neg];rw[input_valid mac_text (by simp[macL,protB,Itm.items])]
 simp
theorem law13_awake {H:Snap}(hTab:Tabs H) (w:World) (hH:Holds w H) :
  Calls Tryz.prog 5 #[] w fun e w'=>e=.returned (.bool true)∧Below w.heap.size w w':=by
 go_enter Tryz.func5,Tryz.ntmps5
 go_wp2_with fail
 refine(ref12_Empty _).mono ?_
 rintro e w1 ⟨rfl,hb1⟩
 have hG1:=(Grows.of_below hH hb1).alloc (.cells #[.int .u8 1,.int .u8 2] 5);have EN:=Hh (env_Encode hTab _ hG1.holds w1.heap.size (Blk.new w1 5 #[.int .u8 1,.int .u8 2]));go_wp2_with fail
 refine EN.out.mono ?_
 rintro e w2 ⟨r1,rfl,hf1⟩
 obtain⟨A1,c1,rfl,_⟩:=hf1.own.form;have hG2:=hG1.below_ hf1.2;have hs1:=hf1.own.src;clear EN hG1 hf1 hb1;go_wp2_with fail
 refine(ref12_Empty _).mono ?_
 rintro e w3 ⟨rfl,hb3⟩
 have hG3:=hG2.below_ hb3;have hs1:=hs1.below hb3
 obtain⟨H4,hG4,hl4,hr4⟩:=rows_snap hG3 23 [.slice none 0 0] [[]] (by simp) (fun j hj=>by
  have:j=0:=by simpa using hj
  subst this
  exact⟨none,0,rfl,IsBytes.nil _⟩)
 have hs1:=hs1.alloc (.cells #[.slice none 0 0] 23)
 have IN:=Hh (envelope_Input (hTab.mono hG4.le) (p:=emptyM) (u:=emptyM) (a:=⟨none,0,none,0⟩) (b:=⟨none,0,none,0⟩) (IsItem.plain _ 5 0 (by omega) (by omega)) (IsItem.plain _ 5 0 (by omega) (by omega)) ⟨#[77,65,67,48]⟩ (by show(4:Nat)≤_;omega)
  (ext:=[]) (IsBytes.nil _) (by simp) hr4 (by simp) (by simp) _ hG4.holds)
 have hbb:=hG4.below;clear hG2 hG3 hb3 hG4 hl4 hr4;go_wp2_with fail
 refine IN.out.mono ?_
 rintro e w5 ⟨r2,l2,rfl,hf2,hl2⟩
 have hcode:inputE (⟨#[77,65,67,48]⟩:ByteArray).data.toList emptyM emptyM [] [[]]=0:=mac_code;rw[if_pos hcode]at hl2;rw[hcode];replace hl2:=hl2.trans mac_enc;subst hl2;obtain⟨A2,c2,rfl,_⟩:=hf2.own.form;have k1:=conv_bytes (hs1.below hf2.2) 7 c1 rfl;have k2:=conv_bytes hf2.own.src 9 c2 rfl;have hbz:=hbb.trans (hf2.2.mono hbb.size);clear IN hcode hs1 hf2 hbb;go_wp2_with fail
 go_ret
 exact⟨rfl,hbz⟩
def HState (w:World) (H:Snap) (alg:Int) (g C B:Nat) (wx:World):Prop:=∃ (p u:Itm) (a b:Ad) (Hx:Snap),Blk wx C 28 (hdrC p a u b)∧Blk wx w.heap.size 28 (hdrC zeroItm ⟨none,0,none,0⟩ zeroItm ⟨none,0,none,0⟩)∧Dealt w H wx Hx g∧Hx C=none∧Hx w.heap.size=none∧
 IsItem Hx a.ba a.bc a.ia a.ic p∧IsItem Hx b.ba b.bc b.ia b.ic u∧Modest p∧Modest u∧(alg=10→validH p u=true∧szL p≤B∧szL u≤B)
def HdrSaid (w:World) (H:Snap) (g:Nat) (alg:Int) (e:Ending) (w':World):Prop:=∃ (p u:Itm) (a b:Ad) (H':Snap),e=.returned (.agg (hdrC p a u b))∧Dealt w H w' H' g∧IsItem H' a.ba a.bc a.ia a.ic p∧IsItem H' b.ba b.bc b.ia b.ic u∧Modest p∧Modest u∧
 (alg=10→validH p u=true∧szL p≤2000)
theorem dealt_new {w w':World}{H H':Snap}{g:Nat}(_h:Dealt w H w' H' g) (t:TypeId) (cs:Array Value):Blk (w'.alloc (.cells cs t)) w'.heap.size t cs:=Blk.new _ _ _
theorem modest_empty:Modest emptyM:=modest_plain _ _ _ (by simp)
theorem sz_empty:szL emptyM=0:=by simp[szL,Itm.items,encL]
theorem hdr_one (p u:Itm) (a b:Ad):(hdrC p a u b).all (·.oneCell')=true:=by kernel_rfl
theorem crit_mod:Modest (.mk 4 0 [] [intP 98])∧(encB (.mk 4 0 [] [intP 98])).length≤18:=by
 refine⟨?_, ?_⟩
 ·rw[Modest,ModestL,ModestL];exact⟨by simp,by simp,modest_int 98,trivial⟩
 ·have h1:=encB_len 4 0 [] [intP 98] (by omega) (by omega);have h2:=encB_int 98
  simp only[encL,List.length_append,List.length_nil,List.append_nil]at h1
  omega
theorem mk_Headers {H:Snap}{g:Nat}(hTab:Tabs H) (w:World) (hD:DeckIn w g H) (alg:Int) (ha1 : -1000≤alg) (ha2:alg≤1000) :
  Calls Tryz.prog 19 #[.pointer (some ⟨g,0,none⟩),.int .i64 alg] w (HdrSaid w H g alg):=by
 have hgl:=hD.deck.lt;have hT:=Blk.new w 28 (hdrC zeroItm ⟨none,0,none,0⟩ zeroItm ⟨none,0,none,0⟩);have hd0:=hD.grows ((Grows.refl hD.holds).alloc zeroH);have hnT:H w.heap.size=none:=hD.holds.none_of_ge (Nat.le_refl _);have hHw:=hD.holds;have HA:=Hh (And.intro ha1 ha2);clear hD ha1 ha2;go_enter Tryz.func19,Tryz.ntmps19
 go_wp2_with fail
 refine(ref12_Empty _).mono ?_
 rintro e w1 ⟨rfl,hb1⟩
 have hT:=(hT.below hb1).alloc (.cells (hdrC emptyM ⟨none,0,none,0⟩ emptyM ⟨none,0,none,0⟩) 28);have hd:=(hd0.grown (Grows.of_below hd0.holds hb1)).alloc (.cells (hdrC emptyM ⟨none,0,none,0⟩ emptyM ⟨none,0,none,0⟩) 28);have hC:=Blk.new w1 28 (hdrC emptyM ⟨none,0,none,0⟩ emptyM ⟨none,0,none,0⟩);have hw1:w.heap.size<w1.heap.size:=by have:=hb1.size;simp only[size_alloc]at this;omega
 have hnC:H w1.heap.size=none:=hHw.none_of_ge (by omega);clear hb1 hd0 hHw;go_upto_if 15 with fail
 go_cut [15] (fun s15 wx=>HState w H alg g w1.heap.size 18 wx)
 case first =>
  by_cases ha:alg=0
  ·subst ha;go_wp2_with fail
   go_meet
   exact⟨emptyM,emptyM,_,_,H,hC,hT,hd,hnC,hnT,IsItem.plain _ 5 0 (by omega) (by omega),IsItem.plain _ 5 0 (by omega) (by omega),modest_empty,modest_empty,fun h=>by cases h⟩
  ·have b1:(alg != 0)=true:=by simp[ha]
   have p1:(alg=0)=False:=eq_false ha;clear ha;go_upto_region 3 with fail
   have hC:=hC.drew;have hT:=hT.drew;have hd:=hd.drew
   refine wp_region_ways 10 (fun _=>True) (by kernel_rfl) (trivial) (fun hHeld=>?_)
   refine TkT 1 rfl ?_
   refine TkT 4 rfl ?_
   refine Ways.two (i:=0) (j:=2) rfl rfl (by kernel_rfl) (fun K hK=>?_) (fun K hK=>?_)
   ·have k0:=hC.cell 0 rfl;have k1:=hC.cell 1 rfl;have k2:=hC.cell 2 rfl;have k3:=hC.cell 3 rfl;have k4:=hC.cell 4 rfl;have k5:=hC.cell 5 rfl;have k6:=hC.cell 6 rfl;have k7:=hC.cell 7 rfl;go_simp
    refine Ko hK ?_ fun hHeld=>?_
    ·exact trivial
    clear hK K
    refine To 2 rfl fun K hK=>?_
    go_simp
    refine(deck_Next _ hd.deck 4 (by omega) (by omega)).mono ?_
    rintro e w3 ⟨q,rfl,hq,hd3⟩
    have hC:=hC.dealt hd3 (by omega);have hT:=hT.dealt hd3 (by omega);have hd:=hd.trans hd3
    refine Ko hK ?_ fun hHeld=>?_
    ·exact trivial
    clear hK K
    refine TkT 3 rfl ?_
    refine To 5 rfl fun K hK=>?_
    go_simp
    refine(ref_Int alg (by have:=HA.out;omega) (by have:=HA.out;omega) _ hd.holds).mono ?_
    rintro e w4 ⟨v4,rfl,ja,jb,jc,jd,H4,rfl,hG4,hi4⟩
    have hnT:=hG4.none hnT hT.lt;have hnC:=hG4.none hnC hC.lt;have hC:=hC.below hG4.below;have hT:=hT.below hG4.below;have hd:=hd.grown hG4
    refine Ko hK ?_ fun hHeld=>?_
    ·exact trivial
    clear hK K
    refine To 6 rfl fun K hK=>?_
    go_simp
    refine(ref12_Put (hTab.mono hd.le) (p:=emptyM) (u:=emptyM) (a:=⟨none,0,none,0⟩) (b:=⟨none,0,none,0⟩) (d:=⟨ja,jb,jc,jd⟩) (IsItem.plain _ 5 0 (by omega) (by omega)) (IsItem.plain _ 5 0 (by omega) (by omega)) hi4 _ 1 (by omega) (by omega) _ hd.holds).mono ?_
    rintro e w6 ⟨p',u',val,c,rfl,⟨a',b',H6,rfl,hG6,hp',hu'⟩,hc0,hmp',hmu',hex⟩
    have hnT:=hG6.none hnT hT.lt;have hnC:=hG6.none hnC hC.lt;have hC:=hC.below hG6.below;have hT:=hT.below hG6.below;have hd:=hd.grown hG6
    refine Ko hK ?_ fun hHeld=>?_
    ·exact trivial
    clear hK K
    refine TkT 7 rfl ?_
    refine TkT 8 rfl ?_
    refine TkT 9 rfl ?_
    refine To 10 rfl fun K hK=>?_
    rw[if_pos (by rfl)]
    refine wp_store_item _ _ _ rfl _ _ rfl rfl _ _ hC size_hdr rfl (hdr_one _ _ _ _) fun w7 hC hg7=>?_
    have hT:=hT.gr hg7 (by omega);have hd:=hd.grownRow (row:=some w1.heap.size) (by rintro q ⟨⟩;exact hnC) (by rintro q ⟨⟩;omega) hgl hg7
    refine Kz hK ?_
    clear hK K
    refine Wd ?_
    go_wp2_with fail
    go_meet
    refine⟨p',u',a',b',H6,hC,hT,hd,hnC,hnT,hp',hu',hmp',hmu',fun h10=>?_⟩
    obtain⟨hv,hs1,hs2⟩:=hc0 (hex (by first | trivial | rfl) (by first | trivial | rfl) (by first | trivial | rfl) (by rw[h10]));have he:=encB_int alg;have he0:=sz_empty
    exact⟨hv,by omega,by omega⟩
   ·go_simp
    refine(deck_Next _ hd.deck 4 (by omega) (by omega)).mono ?_
    rintro e w3 ⟨q,rfl,hq,hd3⟩
    have hC:=hC.dealt hd3 (by omega);have hT:=hT.dealt hd3 (by omega);have hd:=hd.trans hd3
    refine Ko hK ?_ fun hHeld=>?_
    ·exact trivial
    clear hK K
    refine TkT 3 rfl ?_
    refine Ways.two (i:=0) (j:=5) rfl rfl (by kernel_rfl) (fun K hK=>?_) (fun K hK=>?_)
    ·have k0:=hC.cell 0 rfl;have k1:=hC.cell 1 rfl;have k2:=hC.cell 2 rfl;have k3:=hC.cell 3 rfl;have k4:=hC.cell 4 rfl;have k5:=hC.cell 5 rfl;have k6:=hC.cell 6 rfl;have k7:=hC.cell 7 rfl;go_simp
     refine Ko hK ?_ fun hHeld=>?_
     ·exact trivial
     clear hK K
     refine To 5 rfl fun K hK=>?_
     go_simp
     refine(ref_Int alg (by have:=HA.out;omega) (by have:=HA.out;omega) _ hd.holds).mono ?_
     rintro e w4 ⟨v4,rfl,ja,jb,jc,jd,H4,rfl,hG4,hi4⟩
     have hnT:=hG4.none hnT hT.lt;have hnC:=hG4.none hnC hC.lt;have hC:=hC.below hG4.below;have hT:=hT.below hG4.below;have hd:=hd.grown hG4
     refine Ko hK ?_ fun hHeld=>?_
     ·exact trivial
     clear hK K
     refine To 6 rfl fun K hK=>?_
     go_simp
     refine(ref12_Put (hTab.mono hd.le) (p:=emptyM) (u:=emptyM) (a:=⟨none,0,none,0⟩) (b:=⟨none,0,none,0⟩) (d:=⟨ja,jb,jc,jd⟩) (IsItem.plain _ 5 0 (by omega) (by omega)) (IsItem.plain _ 5 0 (by omega) (by omega)) hi4 _ 1 (by omega) (by omega) _ hd.holds).mono ?_
     rintro e w6 ⟨p',u',val,c,rfl,⟨a',b',H6,rfl,hG6,hp',hu'⟩,hc0,hmp',hmu',hex⟩
     have hnT:=hG6.none hnT hT.lt;have hnC:=hG6.none hnC hC.lt;have hC:=hC.below hG6.below;have hT:=hT.below hG6.below;have hd:=hd.grown hG6
     refine Ko hK ?_ fun hHeld=>?_
     ·exact trivial
     clear hK K
     refine TkT 7 rfl ?_
     refine TkT 8 rfl ?_
     refine TkT 9 rfl ?_
     refine To 10 rfl fun K hK=>?_
     rw[if_pos (by rfl)]
     refine wp_store_item _ _ _ rfl _ _ rfl rfl _ _ hC size_hdr rfl (hdr_one _ _ _ _) fun w7 hC hg7=>?_
     have hT:=hT.gr hg7 (by omega);have hd:=hd.grownRow (row:=some w1.heap.size) (by rintro q ⟨⟩;exact hnC) (by rintro q ⟨⟩;omega) hgl hg7
     refine Kz hK ?_
     clear hK K
     refine Wd ?_
     go_wp2_with fail
     go_meet
     refine⟨p',u',a',b',H6,hC,hT,hd,hnC,hnT,hp',hu',hmp',hmu',fun h10=>?_⟩
     obtain⟨hv,hs1,hs2⟩:=hc0 (hex (by first | trivial | rfl) (by first | trivial | rfl) (by first | trivial | rfl) (by rw[h10]));have he:=encB_int alg;have he0:=sz_empty
     exact⟨hv,by omega,by omega⟩
    ·go_simp
     refine(ref_Int alg (by have:=HA.out;omega) (by have:=HA.out;omega) _ hd.holds).mono ?_
     rintro e w4 ⟨v4,rfl,ja,jb,jc,jd,H4,rfl,hG4,hi4⟩
     have hnT:=hG4.none hnT hT.lt;have hnC:=hG4.none hnC hC.lt;have hC:=hC.below hG4.below;have hT:=hT.below hG4.below;have hd:=hd.grown hG4
     refine Ko hK ?_ fun hHeld=>?_
     ·exact trivial
     clear hK K
     refine To 0 rfl fun K hK=>?_
     have k0:=hC.cell 0 rfl;have k1:=hC.cell 1 rfl;have k2:=hC.cell 2 rfl;have k3:=hC.cell 3 rfl;have k4:=hC.cell 4 rfl;have k5:=hC.cell 5 rfl;have k6:=hC.cell 6 rfl;have k7:=hC.cell 7 rfl;go_simp
     refine Ko hK ?_ fun hHeld=>?_
     ·exact trivial
     clear hK K
     refine To 6 rfl fun K hK=>?_
     go_simp
     refine(ref12_Put (hTab.mono hd.le) (p:=emptyM) (u:=emptyM) (a:=⟨none,0,none,0⟩) (b:=⟨none,0,none,0⟩) (d:=⟨ja,jb,jc,jd⟩) (IsItem.plain _ 5 0 (by omega) (by omega)) (IsItem.plain _ 5 0 (by omega) (by omega)) hi4 _ 1 (by omega) (by omega) _ hd.holds).mono ?_
     rintro e w6 ⟨p',u',val,c,rfl,⟨a',b',H6,rfl,hG6,hp',hu'⟩,hc0,hmp',hmu',hex⟩
     have hnT:=hG6.none hnT hT.lt;have hnC:=hG6.none hnC hC.lt;have hC:=hC.below hG6.below;have hT:=hT.below hG6.below;have hd:=hd.grown hG6
     refine Ko hK ?_ fun hHeld=>?_
     ·exact trivial
     clear hK K
     refine TkT 7 rfl ?_
     refine TkT 8 rfl ?_
     refine TkT 9 rfl ?_
     refine To 10 rfl fun K hK=>?_
     rw[if_pos (by rfl)]
     refine wp_store_item _ _ _ rfl _ _ rfl rfl _ _ hC size_hdr rfl (hdr_one _ _ _ _) fun w7 hC hg7=>?_
     have hT:=hT.gr hg7 (by omega);have hd:=hd.grownRow (row:=some w1.heap.size) (by rintro q ⟨⟩;exact hnC) (by rintro q ⟨⟩;omega) hgl hg7
     refine Kz hK ?_
     clear hK K
     refine Wd ?_
     go_wp2_with fail
     go_meet
     refine⟨p',u',a',b',H6,hC,hT,hd,hnC,hnT,hp',hu',hmp',hmu',fun h10=>?_⟩
     obtain⟨hv,hs1,hs2⟩:=hc0 (hex (by first | trivial | rfl) (by first | trivial | rfl) (by first | trivial | rfl) (by rw[h10]));have he:=encB_int alg;have he0:=sz_empty
     exact⟨hv,by omega,by omega⟩
 case rest =>
  clear hC hT hd hnC hnT;obtain⟨p,u,a,b,Hx,hC,hT,hd,hnC,hnT,hp,hu,hmp,hmu,hK⟩:=hcut;have N3:=Hh (deck_Next wc hd.deck 3 (by omega) (by omega));have HK:=Hh hK;clear hK;go_wp2_with fail
  refine N3.out.mono ?_
  rintro e w2 ⟨n0,rfl,hn0,hd2⟩
  have hC2:=hC.dealt hd2 (by omega);have hT2:=hT.dealt hd2 (by omega);have hdd:=hd.trans hd2;have hS0:HState w H alg g w1.heap.size (18+252*(2-n0)) w2:=⟨p,u,a,b,Hx,hC2,hT2,hdd,hnC,hnT,hp,hu,hmp,hmu,fun h=>by obtain⟨x1,x2,x3⟩:=HK.out h;exact⟨x1,by omega,by omega⟩⟩
  clear N3 hd2 hC hT hd hC2 hT2 hdd hnC hnT hp hu hmp hmu HK;go_wp2_with fail
  go_loopw [6] (fun v6 wx=>∃ kk:Nat,v6=.int .i64 (kk:Int)∧kk≤2∧HState w H alg g w1.heap.size (18+252*(2-kk)) wx) (fun v6 _=>(intOf v6).toNat)
  case atStart=>exact⟨n0,rfl,by omega,hS0⟩
  case round =>
   clear hS0 hn0;obtain⟨kk,rfl,hk2,p,u,a,b,Hx,hC,hT,hd,hnC,hnT,hp,hu,hmp,hmu,hK⟩:=hrel;have HK:=Hh hK;have HKK:=Hh hk2;clear hK hk2
   by_cases hlt:(0:Int)<(kk:Int)
   ·-- one more parameter
    have hB:=Blk.new wr 3 #[.int .i64 4,.int .i64 6,.int .i64 3,.int .i64 99,.int .i64 (-7)];have hd3:=hd.alloc (.cells #[.int .i64 4,.int .i64 6,.int .i64 3,.int .i64 99,.int .i64 (-7)] 3);have hC3:=hC.alloc (.cells #[.int .i64 4,.int .i64 6,.int .i64 3,.int .i64 99,.int .i64 (-7)] 3);have hT3:=hT.alloc (.cells #[.int .i64 4,.int .i64 6,.int .i64 3,.int .i64 99,.int .i64 (-7)] 3);have N5:=Hh (deck_Next _ hd3.deck 5 (by omega) (by omega));clear hC hT;go_wp2_with fail
    refine N5.out.mono ?_
    rintro e w4 ⟨j,rfl,hj,hd4⟩
    have hB4:=hB.dealt hd4 (by have:=hd.size;omega);obtain⟨v,hc,hP⟩:=hB4.pick isI64 (by kernel_rfl) j (by simp;omega);obtain⟨nn,rfl,hnn⟩:=isI64_spec hP;have hC4:=hC3.dealt hd4 (by omega);have hT4:=hT3.dealt hd4 (by omega);have hd5:=hd3.trans hd4;have HNN:=Hh hnn;have BY:=Hh (mk_Bytes w4 hd5.deck 5 (by omega) (by omega));clear N5 hB hB4 hP hd hd3 hd4 hnn hC3 hT3;go_wp2_with fail
    refine BY.out.mono ?_
    rintro e w5 ⟨A,c5,l5,rfl,hl5,H5,hb5,hd6⟩
    have hC5:=hC4.dealt hd6 (by omega);have hT5:=hT4.dealt hd6 (by omega);have hnC5:=hd6.hid hnC hC4.lt;have hnT5:=hd6.hid hnT hT4.lt;have hd7:=hd5.trans hd6;have hp5:=hp.mono hd6.le;have hu5:=hu.mono hd6.le;have RB:=Hh (ref_Bytes (A:=A) (c:=c5) (l:=l5) rfl (by omega) w5 (Src.of_row hb5.row hd6.holds) hd6.holds);have HL5:=Hh hl5;clear BY hd5 hd6 hC4 hT4 hnC hnT hp hu hb5 hl5 hc;go_wp2_with fail
    refine RB.out.mono ?_
    rintro e w6 ⟨v6,rfl,ja,jb,jc,jd,H6,rfl,hG6,hi6⟩
    obtain⟨Y,hY⟩:∃ Y,Itm.mk 2 0 l5 []=Y:=⟨_,rfl⟩
    rw[hY]at hi6⊢
    have HY:=Hh (show Modest Y∧(encB Y).length≤243 by
     rw[← hY]
     refine⟨modest_plain _ _ _ (by have:=HL5.out;omega), ?_⟩
     have:=encB_len 2 0 l5 [] (by omega) (by omega);have:=HL5.out
     simp[encL]at *
     omega)
    have hC:=(hC5.below hG6.below).alloc (itemO Y ja jb jc jd);have hT:=(hT5.below hG6.below).alloc (itemO Y ja jb jc jd);have hV:=Blk.new w6 26 #[.int .i64 Y.kind,.int .u64 Y.n,.slice ja Y.bytes.length jb,.slice jc Y.items.length jd];have hnC:=hG6.none hnC5 hC5.lt;have hnT:=hG6.none hnT5 hT5.lt;have hw6:w1.heap.size<w6.heap.size:=by have:=hC5.lt;have:=hG6.size;omega
    have hd:=(hd7.grown hG6).alloc (itemO Y ja jb jc jd);have hnV:H6 w6.heap.size=none:=hG6.holds.none_of_ge (Nat.le_refl _);have hp:=hp5.mono hG6.le;have hu:=hu5.mono hG6.le;clear RB hd7 hC5 hT5 hnC5 hnT5 hp5 hu5 hG6 hY;go_upto_if 41 with fail
    go_cut [41] (fun s41 wx=>∃ (y:Itm) (c:Ad) (H7:Snap),H6.le H7∧Blk wx w1.heap.size 28 (hdrC p a u b)∧Blk wx w.heap.size 28 (hdrC zeroItm ⟨none,0,none,0⟩ zeroItm ⟨none,0,none,0⟩)∧Blk wx w6.heap.size 26 #[.int .i64 y.kind,.int .u64 y.n,.slice c.ba y.bytes.length c.bc,.slice c.ia y.items.length c.ic]∧
     Dealt w H wx H7 g∧H7 w1.heap.size=none∧H7 w.heap.size=none∧H7 w6.heap.size=none∧IsItem H7 c.ba c.bc c.ia c.ic y∧Modest y∧(encB y).length≤243)
    case first =>
     by_cases h99:nn=99
     ·subst h99;have IT:=Hh (item_succ 0 (by omega) item_zero _ _ _ (hTab.mono hd.le) hd.deck);go_wp2_with fail
      refine IT.out.mono ?_
      rintro e w7 ⟨v7,y,rfl,⟨ka,kb,kc,kd,H7,rfl,hd7,hi7⟩,hmy,hly⟩
      have hC7:=hC.dealt hd7 (by omega);have hT7:=hT.dealt hd7 (by omega);have hV7:=hV.dealt hd7 (by omega);have hnC7:=hd7.hid hnC hC.lt;have hnT7:=hd7.hid hnT hT.lt;have hnV7:=hd7.hid hnV hV.lt;have hd8:=hd.trans hd7;have hle7:=hd7.le;have HMY:=Hh (And.intro hmy hly);clear IT hd7 hC hT hV hnC hnT hnV hd hmy hly;go_wp2_with (with_reducible refine stop_store ?_)
      refine stI hV7 fun w8 hV8 hg8=>?_
      have hC8:=hC7.gr hg8 (by omega);have hT8:=hT7.gr hg8 (by omega);have hd9:=hd8.grownRow (row:=some w6.heap.size) (by rintro q ⟨⟩;exact hnV7) (by rintro q ⟨⟩;omega) hgl hg8;go_wp2_with fail
      go_meet
      exact⟨y,⟨ka,kb,kc,kd⟩,H7,hle7,hC8,hT8,hV8,hd9,hnC7,hnT7,hnV7,hi7,HMY.out.1,HMY.out.2⟩
     ·have b1:(nn==99)=false:=by simp[h99]
      have p1:(nn=99)=False:=eq_false h99;clear h99;go_wp2_with fail
      go_meet
      exact⟨Y,⟨ja,jb,jc,jd⟩,H6,Snap.le.refl _,hC,hT,hV,hd,hnC,hnT,hnV,hi6,HY.out.1,HY.out.2⟩
    case rest =>
     clear hC hT hV hd hnC hnT hnV hi6;obtain⟨y,c,H7,hle7,hC,hT,hV,hd,hnC,hnT,hnV,hy,hmy,hly⟩:=hcut;have HMY:=Hh hly;have hp:=hp.mono hle7;have hu:=hu.mono hle7;clear hly;go_upto_region 11 with fail
     go_cut [9,10] (fun s9 s10 wx=>∃ (N:Nat) (cc:Int) (p' u':Itm) (a' b':Ad) (H8:Snap),s9=.pointer (some ⟨N,0,none⟩)∧s10=.int .i64 cc∧Blk wx w1.heap.size 28 (hdrC p a u b)∧Blk wx w.heap.size 28 (hdrC zeroItm ⟨none,0,none,0⟩ zeroItm ⟨none,0,none,0⟩)∧Blk wx N 28 (hdrC p' a' u' b')∧
      Dealt w H wx H8 g∧H7.le H8∧H8 w1.heap.size=none∧H8 w.heap.size=none∧IsItem H8 a'.ba a'.bc a'.ia a'.ic p'∧IsItem H8 b'.ba b'.bc b'.ia b'.ic u'∧Modest p'∧Modest u'∧
      (cc=0→validH p' u'=true∧szL p'≤szL p+252∧szL u'≤szL u+252))
     case first =>
      have hC:=hC.drew;have hT:=hT.drew;have hV:=hV.drew;have hd:=hd.drew;have hle:=Snap.le.refl H7
      refine wp_region_ways 12 (fun w'=>w'.cell? ⟨w1.heap.size,0,none⟩=some (.int .i64 p.kind)∧w'.cell? ⟨w1.heap.size,1,none⟩=some (.int .u64 p.n)∧w'.cell? ⟨w1.heap.size,2,none⟩=some (.slice a.ba p.bytes.length a.bc)∧w'.cell? ⟨w1.heap.size,3,none⟩=some (.slice a.ia p.items.length a.ic)∧w'.cell? ⟨w1.heap.size,4,none⟩=some (.int .i64 u.kind)∧w'.cell? ⟨w1.heap.size,5,none⟩=some (.int .u64 u.n)∧w'.cell? ⟨w1.heap.size,6,none⟩=some (.slice b.ba u.bytes.length b.bc)∧w'.cell? ⟨w1.heap.size,7,none⟩=some (.slice b.ia u.items.length b.ic)∧w'.cell? ⟨w6.heap.size,0,none⟩=some (.int .i64 y.kind)∧w'.cell? ⟨w6.heap.size,1,none⟩=some (.int .u64 y.n)∧w'.cell? ⟨w6.heap.size,2,none⟩=some (.slice c.ba y.bytes.length c.bc)∧w'.cell? ⟨w6.heap.size,3,none⟩=some (.slice c.ia y.items.length c.ic)) (by kernel_rfl) (⟨hC.cell 0 rfl,hC.cell 1 rfl,hC.cell 2 rfl,hC.cell 3 rfl,hC.cell 4 rfl,hC.cell 5 rfl,hC.cell 6 rfl,hC.cell 7 rfl,hV.cell 0 rfl,hV.cell 1 rfl,hV.cell 2 rfl,hV.cell 3 rfl⟩) (fun hHeld=>?_)
      refine Tk 0 rfl hHeld ?_
      refine Tk 1 rfl hHeld ?_
      refine Tk 4 rfl hHeld ?_
      refine Tk 5 rfl hHeld ?_
      refine Ways.two (i:=2) (j:=10) rfl rfl (by kernel_rfl) (fun K hK=>?_) (fun K hK=>?_)
      ·go_simp
       refine(deck_Next _ hd.deck 2 (by omega) (by omega)).mono ?_
       rintro e w8 ⟨q,rfl,hq,hd8⟩
       try have hN:=hN.dealt hd8 (by have:=hd.size;omega)
       have hC:=hC.dealt hd8 (by omega);have hT:=hT.dealt hd8 (by omega);have hV:=hV.dealt hd8 (by omega);have hd:=hd.trans hd8
       refine Ko hK ?_ fun hHeld=>?_
       ·exact⟨hC.cell 0 rfl,hC.cell 1 rfl,hC.cell 2 rfl,hC.cell 3 rfl,hC.cell 4 rfl,hC.cell 5 rfl,hC.cell 6 rfl,hC.cell 7 rfl,hV.cell 0 rfl,hV.cell 1 rfl,hV.cell 2 rfl,hV.cell 3 rfl⟩
       clear hK K
       refine Tk 3 rfl hHeld ?_
       refine Ways.two (i:=6) (j:=10) rfl rfl (by kernel_rfl) (fun K hK=>?_) (fun K hK=>?_)
       ·go_simp
        refine(ref12_Put (hTab.mono hd.le) (a:=a) (b:=b) (d:=c) hp hu hy _ nn (by have:=HNN.out;omega) (by have:=HNN.out;omega) _ hd.holds).mono ?_
        rintro e w9 ⟨p',u',val,cc,rfl,⟨a',b',H8,rfl,hG8,hp',hu'⟩,hc0,hmp',hmu',hex⟩
        try have hnN:=hG8.none hnN hN.lt
        try have hN:=hN.below hG8.below
        have hnT:=hG8.none hnT hT.lt;have hnC:=hG8.none hnC hC.lt;have hC:=hC.below hG8.below;have hT:=hT.below hG8.below;have hV:=hV.below hG8.below;have hle:=hle.trans hG8.le;have hd:=hd.grown hG8
        refine Ko hK ?_ fun hHeld=>?_
        ·exact⟨hC.cell 0 rfl,hC.cell 1 rfl,hC.cell 2 rfl,hC.cell 3 rfl,hC.cell 4 rfl,hC.cell 5 rfl,hC.cell 6 rfl,hC.cell 7 rfl,hV.cell 0 rfl,hV.cell 1 rfl,hV.cell 2 rfl,hV.cell 3 rfl⟩
        clear hK K
        refine Tk 7 rfl hHeld ?_
        refine Tk 8 rfl hHeld ?_
        refine Tk 9 rfl hHeld ?_
        refine To 10 rfl fun K hK=>?_
        go_simp
        have hN:=dealt_new hd 28 (hdrC zeroItm ⟨none,0,none,0⟩ zeroItm ⟨none,0,none,0⟩);have hnN:=hd.holds.none_of_ge (Nat.le_refl _);have hCN:=hV.lt
        try simp only[drew_heap,size_alloc]at hN hnN hCN
        have hC:=hC.alloc zeroH;have hT:=hT.alloc zeroH;have hV:=hV.alloc zeroH;have hd:=hd.alloc zeroH
        refine Ko hK ?_ fun hHeld=>?_
        ·exact⟨hC.cell 0 rfl,hC.cell 1 rfl,hC.cell 2 rfl,hC.cell 3 rfl,hC.cell 4 rfl,hC.cell 5 rfl,hC.cell 6 rfl,hC.cell 7 rfl,hV.cell 0 rfl,hV.cell 1 rfl,hV.cell 2 rfl,hV.cell 3 rfl⟩
        clear hK K
        refine To 11 rfl fun K hK=>?_
        rw[if_pos (by rfl)]
        refine wp_store_item _ _ _ rfl _ _ rfl rfl _ _ hN size_hdr rfl (hdr_one _ _ _ _) fun w10 hN hg10=>?_
        have hC:=hC.gr hg10 (by omega);have hT:=hT.gr hg10 (by omega);have hV:=hV.gr hg10 (by omega);have hd:=hd.grownRow (by rintro q ⟨⟩;exact hnN) (by rintro q ⟨⟩;omega) hgl hg10
        refine Ko hK ?_ fun hHeld=>?_
        ·exact⟨hC.cell 0 rfl,hC.cell 1 rfl,hC.cell 2 rfl,hC.cell 3 rfl,hC.cell 4 rfl,hC.cell 5 rfl,hC.cell 6 rfl,hC.cell 7 rfl,hV.cell 0 rfl,hV.cell 1 rfl,hV.cell 2 rfl,hV.cell 3 rfl⟩
        clear hK K
        refine To 12 rfl fun K hK=>?_
        go_simp
        refine Kz hK ?_
        clear hK K
        refine Wd ?_
        go_wp2_with fail
        go_meet
        exact⟨_,cc,p',u',a',b',H8,rfl,rfl,hC,hT,hN,hd,hle,hnC,hnT,hp',hu',hmp',hmu',fun h0=>by obtain⟨x1,x2,x3⟩:=hc0 h0;have:=HMY.out;exact⟨x1,by omega,by omega⟩⟩
       ·go_simp
        have hN:=dealt_new hd 28 (hdrC zeroItm ⟨none,0,none,0⟩ zeroItm ⟨none,0,none,0⟩);have hnN:=hd.holds.none_of_ge (Nat.le_refl _);have hCN:=hV.lt
        try simp only[drew_heap,size_alloc]at hN hnN hCN
        have hC:=hC.alloc zeroH;have hT:=hT.alloc zeroH;have hV:=hV.alloc zeroH;have hd:=hd.alloc zeroH
        refine Ko hK ?_ fun hHeld=>?_
        ·exact⟨hC.cell 0 rfl,hC.cell 1 rfl,hC.cell 2 rfl,hC.cell 3 rfl,hC.cell 4 rfl,hC.cell 5 rfl,hC.cell 6 rfl,hC.cell 7 rfl,hV.cell 0 rfl,hV.cell 1 rfl,hV.cell 2 rfl,hV.cell 3 rfl⟩
        clear hK K
        refine To 6 rfl fun K hK=>?_
        go_simp
        refine(ref12_Put (hTab.mono hd.le) (a:=a) (b:=b) (d:=c) hp hu hy _ nn (by have:=HNN.out;omega) (by have:=HNN.out;omega) _ hd.holds).mono ?_
        rintro e w9 ⟨p',u',val,cc,rfl,⟨a',b',H8,rfl,hG8,hp',hu'⟩,hc0,hmp',hmu',hex⟩
        try have hnN:=hG8.none hnN hN.lt
        try have hN:=hN.below hG8.below
        have hnT:=hG8.none hnT hT.lt;have hnC:=hG8.none hnC hC.lt;have hC:=hC.below hG8.below;have hT:=hT.below hG8.below;have hV:=hV.below hG8.below;have hle:=hle.trans hG8.le;have hd:=hd.grown hG8
        refine Ko hK ?_ fun hHeld=>?_
        ·exact⟨hC.cell 0 rfl,hC.cell 1 rfl,hC.cell 2 rfl,hC.cell 3 rfl,hC.cell 4 rfl,hC.cell 5 rfl,hC.cell 6 rfl,hC.cell 7 rfl,hV.cell 0 rfl,hV.cell 1 rfl,hV.cell 2 rfl,hV.cell 3 rfl⟩
        clear hK K
        refine Tk 7 rfl hHeld ?_
        refine Tk 8 rfl hHeld ?_
        refine Tk 9 rfl hHeld ?_
        refine To 11 rfl fun K hK=>?_
        rw[if_pos (by rfl)]
        refine wp_store_item _ _ _ rfl _ _ rfl rfl _ _ hN size_hdr rfl (hdr_one _ _ _ _) fun w10 hN hg10=>?_
        have hC:=hC.gr hg10 (by omega);have hT:=hT.gr hg10 (by omega);have hV:=hV.gr hg10 (by omega);have hd:=hd.grownRow (by rintro q ⟨⟩;exact hnN) (by rintro q ⟨⟩;omega) hgl hg10
        refine Ko hK ?_ fun hHeld=>?_
        ·exact⟨hC.cell 0 rfl,hC.cell 1 rfl,hC.cell 2 rfl,hC.cell 3 rfl,hC.cell 4 rfl,hC.cell 5 rfl,hC.cell 6 rfl,hC.cell 7 rfl,hV.cell 0 rfl,hV.cell 1 rfl,hV.cell 2 rfl,hV.cell 3 rfl⟩
        clear hK K
        refine To 12 rfl fun K hK=>?_
        go_simp
        refine Kz hK ?_
        clear hK K
        refine Wd ?_
        go_wp2_with fail
        go_meet
        exact⟨_,cc,p',u',a',b',H8,rfl,rfl,hC,hT,hN,hd,hle,hnC,hnT,hp',hu',hmp',hmu',fun h0=>by obtain⟨x1,x2,x3⟩:=hc0 h0;have:=HMY.out;exact⟨x1,by omega,by omega⟩⟩
      ·go_simp
       have hN:=dealt_new hd 28 (hdrC zeroItm ⟨none,0,none,0⟩ zeroItm ⟨none,0,none,0⟩);have hnN:=hd.holds.none_of_ge (Nat.le_refl _);have hCN:=hV.lt
       try simp only[drew_heap,size_alloc]at hN hnN hCN
       have hC:=hC.alloc zeroH;have hT:=hT.alloc zeroH;have hV:=hV.alloc zeroH;have hd:=hd.alloc zeroH
       refine Ko hK ?_ fun hHeld=>?_
       ·exact⟨hC.cell 0 rfl,hC.cell 1 rfl,hC.cell 2 rfl,hC.cell 3 rfl,hC.cell 4 rfl,hC.cell 5 rfl,hC.cell 6 rfl,hC.cell 7 rfl,hV.cell 0 rfl,hV.cell 1 rfl,hV.cell 2 rfl,hV.cell 3 rfl⟩
       clear hK K
       refine To 2 rfl fun K hK=>?_
       go_simp
       refine(deck_Next _ hd.deck 2 (by omega) (by omega)).mono ?_
       rintro e w8 ⟨q,rfl,hq,hd8⟩
       try have hN:=hN.dealt hd8 (by have:=hd.size;omega)
       have hC:=hC.dealt hd8 (by omega);have hT:=hT.dealt hd8 (by omega);have hV:=hV.dealt hd8 (by omega);have hd:=hd.trans hd8
       refine Ko hK ?_ fun hHeld=>?_
       ·exact⟨hC.cell 0 rfl,hC.cell 1 rfl,hC.cell 2 rfl,hC.cell 3 rfl,hC.cell 4 rfl,hC.cell 5 rfl,hC.cell 6 rfl,hC.cell 7 rfl,hV.cell 0 rfl,hV.cell 1 rfl,hV.cell 2 rfl,hV.cell 3 rfl⟩
       clear hK K
       refine Tk 3 rfl hHeld ?_
       refine To 6 rfl fun K hK=>?_
       go_simp
       refine(ref12_Put (hTab.mono hd.le) (a:=a) (b:=b) (d:=c) hp hu hy _ nn (by have:=HNN.out;omega) (by have:=HNN.out;omega) _ hd.holds).mono ?_
       rintro e w9 ⟨p',u',val,cc,rfl,⟨a',b',H8,rfl,hG8,hp',hu'⟩,hc0,hmp',hmu',hex⟩
       try have hnN:=hG8.none hnN hN.lt
       try have hN:=hN.below hG8.below
       have hnT:=hG8.none hnT hT.lt;have hnC:=hG8.none hnC hC.lt;have hC:=hC.below hG8.below;have hT:=hT.below hG8.below;have hV:=hV.below hG8.below;have hle:=hle.trans hG8.le;have hd:=hd.grown hG8
       refine Ko hK ?_ fun hHeld=>?_
       ·exact⟨hC.cell 0 rfl,hC.cell 1 rfl,hC.cell 2 rfl,hC.cell 3 rfl,hC.cell 4 rfl,hC.cell 5 rfl,hC.cell 6 rfl,hC.cell 7 rfl,hV.cell 0 rfl,hV.cell 1 rfl,hV.cell 2 rfl,hV.cell 3 rfl⟩
       clear hK K
       refine Tk 7 rfl hHeld ?_
       refine Tk 8 rfl hHeld ?_
       refine Tk 9 rfl hHeld ?_
       refine To 11 rfl fun K hK=>?_
       rw[if_pos (by rfl)]
       refine wp_store_item _ _ _ rfl _ _ rfl rfl _ _ hN size_hdr rfl (hdr_one _ _ _ _) fun w10 hN hg10=>?_
       have hC:=hC.gr hg10 (by omega);have hT:=hT.gr hg10 (by omega);have hV:=hV.gr hg10 (by omega);have hd:=hd.grownRow (by rintro q ⟨⟩;exact hnN) (by rintro q ⟨⟩;omega) hgl hg10
       refine Ko hK ?_ fun hHeld=>?_
       ·exact⟨hC.cell 0 rfl,hC.cell 1 rfl,hC.cell 2 rfl,hC.cell 3 rfl,hC.cell 4 rfl,hC.cell 5 rfl,hC.cell 6 rfl,hC.cell 7 rfl,hV.cell 0 rfl,hV.cell 1 rfl,hV.cell 2 rfl,hV.cell 3 rfl⟩
       clear hK K
       refine To 12 rfl fun K hK=>?_
       go_simp
       refine Kz hK ?_
       clear hK K
       refine Wd ?_
       go_wp2_with fail
       go_meet
       exact⟨_,cc,p',u',a',b',H8,rfl,rfl,hC,hT,hN,hd,hle,hnC,hnT,hp',hu',hmp',hmu',fun h0=>by obtain⟨x1,x2,x3⟩:=hc0 h0;have:=HMY.out;exact⟨x1,by omega,by omega⟩⟩
     case rest =>
      clear hC hT hV hd hnC hnT hnV hy hmy;obtain⟨N,cc,p',u',a',b',H8,rfl,rfl,hC,hT,hN,hd,hle8,hnC,hnT,hp',hu',hmp',hmu',hc0⟩:=hcut;have HC0:=Hh hc0;have hk3:IntKind.i64.wrap ((kk:Int)-1)=(kk:Int)-1:=IntWalk.i64_in _ (by have:=HKK.out;omega);clear hc0
      by_cases hcc:cc=0
      ·subst hcc;go_upto_region 13 with fail
       have n0':=hN.cell 0 rfl;have n1':=hN.cell 1 rfl;have n2':=hN.cell 2 rfl;have n3':=hN.cell 3 rfl;have n4':=hN.cell 4 rfl;have n5':=hN.cell 5 rfl;have n6':=hN.cell 6 rfl;have n7':=hN.cell 7 rfl;go_wp2_with (with_reducible refine stop_store ?_)
       refine wpList_store_item rfl _ _ _ rfl rfl _ _ rfl rfl _ _ hC size_hdr rfl (hdr_one _ _ _ _) fun w11 hC11 hg11=>?_
       have hT11:=hT.gr hg11 (by omega);have hd11:=hd.grownRow (row:=some w1.heap.size) (by rintro q ⟨⟩;exact hnC) (by rintro q ⟨⟩;omega) hgl hg11;clear hC hT hN hd n0' n1' n2' n3' n4' n5' n6' n7';go_wp2_with fail
       go_roundw
       case rel=>exact⟨kk-1,by rw[show((kk-1:Nat):Int)=(kk:Int)-1 by omega],by have:=HKK.out;omega,p',u',a',b',H8,hC11,hT11,hd11,hnC,hnT,hp',hu',hmp',hmu',fun h10=>by obtain⟨x1,x2,x3⟩:=HC0.out (by first | trivial | rfl);obtain⟨z1,z2,z3⟩:=HK.out h10;have:=HKK.out;exact⟨x1,by omega,by omega⟩⟩
       case measure=>simp[intOf];omega
      ·have b1:(cc==0)=false:=by simp[hcc]
       have p1:(cc=0)=False:=eq_false hcc;have hp8:=hp.mono hle8;have hu8:=hu.mono hle8;clear hcc;go_wp2_with fail
       go_roundw
       case rel=>exact⟨kk-1,by rw[show((kk-1:Nat):Int)=(kk:Int)-1 by omega],by have:=HKK.out;omega,p,u,a,b,H8,hC,hT,hd,hnC,hnT,hp8,hu8,hmp,hmu,fun h10=>by obtain⟨z1,z2,z3⟩:=HK.out h10;have:=HKK.out;exact⟨z1,by omega,by omega⟩⟩
       case measure=>simp[intOf];omega
   ·-- the last two
    have HK2:Hid (alg=10→validH p u=true∧szL p≤522∧szL u≤522):=fun h=>by obtain⟨x1,x2,x3⟩:=HK.out h;exact⟨x1,by omega,by omega⟩
    clear HK;go_upto_region 14 with fail
    go_cut [11,12] (fun s11 s12 wx=>∃ (N:Nat) (cc:Int) (p' u':Itm) (a' b':Ad) (H8:Snap),s11=.pointer (some ⟨N,0,none⟩)∧s12=.int .i64 cc∧Blk wx w1.heap.size 28 (hdrC p a u b)∧Blk wx w.heap.size 28 (hdrC zeroItm ⟨none,0,none,0⟩ zeroItm ⟨none,0,none,0⟩)∧Blk wx N 28 (hdrC p' a' u' b')∧
     Dealt w H wx H8 g∧Hx.le H8∧H8 w1.heap.size=none∧H8 w.heap.size=none∧H8 N=none∧w1.heap.size<N∧IsItem H8 a'.ba a'.bc a'.ia a'.ic p'∧IsItem H8 b'.ba b'.bc b'.ia b'.ic u'∧Modest p'∧Modest u'∧
     (cc=0→validH p' u'=true∧szL p'≤szL p+18∧szL u'≤szL u+18))
    case first =>
     have hC:=hC.drew;have hT:=hT.drew;have hd:=hd.drew;have hle:=Snap.le.refl Hx
     refine wp_region_ways 8 (fun w'=>w'.cell? ⟨w1.heap.size,0,none⟩=some (.int .i64 p.kind)∧w'.cell? ⟨w1.heap.size,1,none⟩=some (.int .u64 p.n)∧w'.cell? ⟨w1.heap.size,2,none⟩=some (.slice a.ba p.bytes.length a.bc)∧w'.cell? ⟨w1.heap.size,3,none⟩=some (.slice a.ia p.items.length a.ic)∧w'.cell? ⟨w1.heap.size,4,none⟩=some (.int .i64 u.kind)∧w'.cell? ⟨w1.heap.size,5,none⟩=some (.int .u64 u.n)∧w'.cell? ⟨w1.heap.size,6,none⟩=some (.slice b.ba u.bytes.length b.bc)∧w'.cell? ⟨w1.heap.size,7,none⟩=some (.slice b.ia u.items.length b.ic)) (by kernel_rfl) (⟨hC.cell 0 rfl,hC.cell 1 rfl,hC.cell 2 rfl,hC.cell 3 rfl,hC.cell 4 rfl,hC.cell 5 rfl,hC.cell 6 rfl,hC.cell 7 rfl⟩) (fun hHeld=>?_)
     refine Tk 0 rfl hHeld ?_
     refine Ways.two (i:=1) (j:=6) rfl rfl (by kernel_rfl) (fun K hK=>?_) (fun K hK=>?_)
     ·go_simp
      refine(ref_Int 1 (by omega) (by omega) _ hd.holds).mono ?_
      rintro e w4 ⟨v4,rfl,ja,jb,jc,jd,H4,rfl,hG4,hi4⟩
      try have hnN:=hG4.none hnN hN.lt
      try have hN:=hN.below hG4.below
      have hnT:=hG4.none hnT hT.lt;have hnC:=hG4.none hnC hC.lt;have hC:=hC.below hG4.below;have hT:=hT.below hG4.below;have hle:=hle.trans hG4.le;have hp:=hp.mono hG4.le;have hu:=hu.mono hG4.le;have hd:=hd.grown hG4
      refine Ko hK ?_ fun hHeld=>?_
      ·exact⟨hC.cell 0 rfl,hC.cell 1 rfl,hC.cell 2 rfl,hC.cell 3 rfl,hC.cell 4 rfl,hC.cell 5 rfl,hC.cell 6 rfl,hC.cell 7 rfl⟩
      clear hK K
      refine Ways.two (i:=2) (j:=6) rfl rfl (by kernel_rfl) (fun K hK=>?_) (fun K hK=>?_)
      ·go_simp
       refine(ref12_Put (hTab.mono hd.le) (a:=a) (b:=b) (d:=⟨ja,jb,jc,jd⟩) hp hu hi4 true 98 (by omega) (by omega) _ hd.holds).mono ?_
       rintro e w9 ⟨p',u',val,cc,rfl,⟨a',b',H8,rfl,hG8,hp',hu'⟩,hc0,hmp',hmu',hex⟩
       try have hnN:=hG8.none hnN hN.lt
       try have hN:=hN.below hG8.below
       have hnT:=hG8.none hnT hT.lt;have hnC:=hG8.none hnC hC.lt;have hC:=hC.below hG8.below;have hT:=hT.below hG8.below;have hle:=hle.trans hG8.le;have hd:=hd.grown hG8
       refine Ko hK ?_ fun hHeld=>?_
       ·exact⟨hC.cell 0 rfl,hC.cell 1 rfl,hC.cell 2 rfl,hC.cell 3 rfl,hC.cell 4 rfl,hC.cell 5 rfl,hC.cell 6 rfl,hC.cell 7 rfl⟩
       clear hK K
       refine Tk 3 rfl hHeld ?_
       refine Tk 4 rfl hHeld ?_
       refine Tk 5 rfl hHeld ?_
       refine To 6 rfl fun K hK=>?_
       go_simp
       have hN:=dealt_new hd 28 (hdrC zeroItm ⟨none,0,none,0⟩ zeroItm ⟨none,0,none,0⟩);have hnN:=hd.holds.none_of_ge (Nat.le_refl _);have hCN:=hC.lt
       try simp only[drew_heap,size_alloc]at hN hnN hCN
       have hC:=hC.alloc zeroH;have hT:=hT.alloc zeroH;have hd:=hd.alloc zeroH
       refine Ko hK ?_ fun hHeld=>?_
       ·exact⟨hC.cell 0 rfl,hC.cell 1 rfl,hC.cell 2 rfl,hC.cell 3 rfl,hC.cell 4 rfl,hC.cell 5 rfl,hC.cell 6 rfl,hC.cell 7 rfl⟩
       clear hK K
       refine To 7 rfl fun K hK=>?_
       rw[if_pos (by rfl)]
       refine wp_store_item _ _ _ rfl _ _ rfl rfl _ _ hN size_hdr rfl (hdr_one _ _ _ _) fun w10 hN hg10=>?_
       have hC:=hC.gr hg10 (by omega);have hT:=hT.gr hg10 (by omega);have hd:=hd.grownRow (by rintro q ⟨⟩;exact hnN) (by rintro q ⟨⟩;omega) hgl hg10
       refine Ko hK ?_ fun hHeld=>?_
       ·exact⟨hC.cell 0 rfl,hC.cell 1 rfl,hC.cell 2 rfl,hC.cell 3 rfl,hC.cell 4 rfl,hC.cell 5 rfl,hC.cell 6 rfl,hC.cell 7 rfl⟩
       clear hK K
       refine To 8 rfl fun K hK=>?_
       go_simp
       refine Kz hK ?_
       clear hK K
       refine Wd ?_
       go_wp2_with fail
       go_meet
       exact⟨_,cc,p',u',a',b',H8,rfl,rfl,hC,hT,hN,hd,hle,hnC,hnT,hnN,hCN,hp',hu',hmp',hmu',fun h0=>by obtain⟨x1,x2,x3⟩:=hc0 h0;have:=encB_int 1;exact⟨x1,by omega,by omega⟩⟩
      ·go_simp
       have hN:=dealt_new hd 28 (hdrC zeroItm ⟨none,0,none,0⟩ zeroItm ⟨none,0,none,0⟩);have hnN:=hd.holds.none_of_ge (Nat.le_refl _);have hCN:=hC.lt
       try simp only[drew_heap,size_alloc]at hN hnN hCN
       have hC:=hC.alloc zeroH;have hT:=hT.alloc zeroH;have hd:=hd.alloc zeroH
       refine Ko hK ?_ fun hHeld=>?_
       ·exact⟨hC.cell 0 rfl,hC.cell 1 rfl,hC.cell 2 rfl,hC.cell 3 rfl,hC.cell 4 rfl,hC.cell 5 rfl,hC.cell 6 rfl,hC.cell 7 rfl⟩
       clear hK K
       refine To 2 rfl fun K hK=>?_
       go_simp
       refine(ref12_Put (hTab.mono hd.le) (a:=a) (b:=b) (d:=⟨ja,jb,jc,jd⟩) hp hu hi4 true 98 (by omega) (by omega) _ hd.holds).mono ?_
       rintro e w9 ⟨p',u',val,cc,rfl,⟨a',b',H8,rfl,hG8,hp',hu'⟩,hc0,hmp',hmu',hex⟩
       try have hnN:=hG8.none hnN hN.lt
       try have hN:=hN.below hG8.below
       have hnT:=hG8.none hnT hT.lt;have hnC:=hG8.none hnC hC.lt;have hC:=hC.below hG8.below;have hT:=hT.below hG8.below;have hle:=hle.trans hG8.le;have hd:=hd.grown hG8
       refine Ko hK ?_ fun hHeld=>?_
       ·exact⟨hC.cell 0 rfl,hC.cell 1 rfl,hC.cell 2 rfl,hC.cell 3 rfl,hC.cell 4 rfl,hC.cell 5 rfl,hC.cell 6 rfl,hC.cell 7 rfl⟩
       clear hK K
       refine Tk 3 rfl hHeld ?_
       refine Tk 4 rfl hHeld ?_
       refine Tk 5 rfl hHeld ?_
       refine To 7 rfl fun K hK=>?_
       rw[if_pos (by rfl)]
       refine wp_store_item _ _ _ rfl _ _ rfl rfl _ _ hN size_hdr rfl (hdr_one _ _ _ _) fun w10 hN hg10=>?_
       have hC:=hC.gr hg10 (by omega);have hT:=hT.gr hg10 (by omega);have hd:=hd.grownRow (by rintro q ⟨⟩;exact hnN) (by rintro q ⟨⟩;omega) hgl hg10
       refine Ko hK ?_ fun hHeld=>?_
       ·exact⟨hC.cell 0 rfl,hC.cell 1 rfl,hC.cell 2 rfl,hC.cell 3 rfl,hC.cell 4 rfl,hC.cell 5 rfl,hC.cell 6 rfl,hC.cell 7 rfl⟩
       clear hK K
       refine To 8 rfl fun K hK=>?_
       go_simp
       refine Kz hK ?_
       clear hK K
       refine Wd ?_
       go_wp2_with fail
       go_meet
       exact⟨_,cc,p',u',a',b',H8,rfl,rfl,hC,hT,hN,hd,hle,hnC,hnT,hnN,hCN,hp',hu',hmp',hmu',fun h0=>by obtain⟨x1,x2,x3⟩:=hc0 h0;have:=encB_int 1;exact⟨x1,by omega,by omega⟩⟩
     ·go_simp
      have hN:=dealt_new hd 28 (hdrC zeroItm ⟨none,0,none,0⟩ zeroItm ⟨none,0,none,0⟩);have hnN:=hd.holds.none_of_ge (Nat.le_refl _);have hCN:=hC.lt
      try simp only[drew_heap,size_alloc]at hN hnN hCN
      have hC:=hC.alloc zeroH;have hT:=hT.alloc zeroH;have hd:=hd.alloc zeroH
      refine Ko hK ?_ fun hHeld=>?_
      ·exact⟨hC.cell 0 rfl,hC.cell 1 rfl,hC.cell 2 rfl,hC.cell 3 rfl,hC.cell 4 rfl,hC.cell 5 rfl,hC.cell 6 rfl,hC.cell 7 rfl⟩
      clear hK K
      refine To 1 rfl fun K hK=>?_
      go_simp
      refine(ref_Int 1 (by omega) (by omega) _ hd.holds).mono ?_
      rintro e w4 ⟨v4,rfl,ja,jb,jc,jd,H4,rfl,hG4,hi4⟩
      try have hnN:=hG4.none hnN hN.lt
      try have hN:=hN.below hG4.below
      have hnT:=hG4.none hnT hT.lt;have hnC:=hG4.none hnC hC.lt;have hC:=hC.below hG4.below;have hT:=hT.below hG4.below;have hle:=hle.trans hG4.le;have hp:=hp.mono hG4.le;have hu:=hu.mono hG4.le;have hd:=hd.grown hG4
      refine Ko hK ?_ fun hHeld=>?_
      ·exact⟨hC.cell 0 rfl,hC.cell 1 rfl,hC.cell 2 rfl,hC.cell 3 rfl,hC.cell 4 rfl,hC.cell 5 rfl,hC.cell 6 rfl,hC.cell 7 rfl⟩
      clear hK K
      refine To 2 rfl fun K hK=>?_
      go_simp
      refine(ref12_Put (hTab.mono hd.le) (a:=a) (b:=b) (d:=⟨ja,jb,jc,jd⟩) hp hu hi4 true 98 (by omega) (by omega) _ hd.holds).mono ?_
      rintro e w9 ⟨p',u',val,cc,rfl,⟨a',b',H8,rfl,hG8,hp',hu'⟩,hc0,hmp',hmu',hex⟩
      try have hnN:=hG8.none hnN hN.lt
      try have hN:=hN.below hG8.below
      have hnT:=hG8.none hnT hT.lt;have hnC:=hG8.none hnC hC.lt;have hC:=hC.below hG8.below;have hT:=hT.below hG8.below;have hle:=hle.trans hG8.le;have hd:=hd.grown hG8
      refine Ko hK ?_ fun hHeld=>?_
      ·exact⟨hC.cell 0 rfl,hC.cell 1 rfl,hC.cell 2 rfl,hC.cell 3 rfl,hC.cell 4 rfl,hC.cell 5 rfl,hC.cell 6 rfl,hC.cell 7 rfl⟩
      clear hK K
      refine Tk 3 rfl hHeld ?_
      refine Tk 4 rfl hHeld ?_
      refine Tk 5 rfl hHeld ?_
      refine To 7 rfl fun K hK=>?_
      rw[if_pos (by rfl)]
      refine wp_store_item _ _ _ rfl _ _ rfl rfl _ _ hN size_hdr rfl (hdr_one _ _ _ _) fun w10 hN hg10=>?_
      have hC:=hC.gr hg10 (by omega);have hT:=hT.gr hg10 (by omega);have hd:=hd.grownRow (by rintro q ⟨⟩;exact hnN) (by rintro q ⟨⟩;omega) hgl hg10
      refine Ko hK ?_ fun hHeld=>?_
      ·exact⟨hC.cell 0 rfl,hC.cell 1 rfl,hC.cell 2 rfl,hC.cell 3 rfl,hC.cell 4 rfl,hC.cell 5 rfl,hC.cell 6 rfl,hC.cell 7 rfl⟩
      clear hK K
      refine To 8 rfl fun K hK=>?_
      go_simp
      refine Kz hK ?_
      clear hK K
      refine Wd ?_
      go_wp2_with fail
      go_meet
      exact⟨_,cc,p',u',a',b',H8,rfl,rfl,hC,hT,hN,hd,hle,hnC,hnT,hnN,hCN,hp',hu',hmp',hmu',fun h0=>by obtain⟨x1,x2,x3⟩:=hc0 h0;have:=encB_int 1;exact⟨x1,by omega,by omega⟩⟩
    case rest =>
     clear hC hT hd hnC hnT;obtain⟨N,cc,p',u',a',b',H8,rfl,rfl,hC,hT,hN,hd,hle8,hnC,hnT,hnN,hCN,hp',hu',hmp',hmu',hc0⟩:=hcut;have HC0:=Hh hc0;have N6:=Hh (deck_Next wc hd.deck 6 (by omega) (by omega));have hp:=hp.mono hle8;have hu:=hu.mono hle8;clear hc0 hle8;go_wp2_with (go_at_call 18;refine stop_in ?_)
     refine N6.out.mono ?_
     rintro e w5 ⟨j,rfl,hj,hd5⟩
     have hC:=hC.dealt hd5 (by omega);have hT:=hT.dealt hd5 (by omega);have hN:=hN.dealt hd5 (by omega);have hd:=hd.trans hd5;clear N6 hd5
     by_cases hgo:j=5∧cc=0
     ·obtain⟨rfl,rfl⟩:=hgo;have HK8:=Hh (HC0.out rfl);clear HC0;go_upto_region 16 with fail
      have n0':=hN.cell 0 rfl;have n1':=hN.cell 1 rfl;have n2':=hN.cell 2 rfl;have n3':=hN.cell 3 rfl;have n4':=hN.cell 4 rfl;have n5':=hN.cell 5 rfl;have n6':=hN.cell 6 rfl;have n7':=hN.cell 7 rfl;go_wp2_with (with_reducible refine stop_store ?_)
      refine wpList_store_item rfl _ _ _ rfl rfl _ _ rfl rfl _ _ hC size_hdr rfl (hdr_one _ _ _ _) fun w11 hC11 hg11=>?_
      have hT11:=hT.gr hg11 (by omega);have hN11:=hN.gr hg11 (by omega);have hd11:=hd.grownRow (row:=some w1.heap.size) (by rintro q ⟨⟩;exact hnC) (by rintro q ⟨⟩;omega) hgl hg11;clear hC hT hN hd n0' n1' n2' n3' n4' n5' n6' n7';go_upto_region 17 with fail
      go_cut [12] (fun s12 wx=>∃ (cc:Int) (p9 u9:Itm) (a9 b9:Ad) (H9:Snap),s12=.int .i64 cc∧Blk wx w1.heap.size 28 (hdrC p' a' u' b')∧Blk wx w.heap.size 28 (hdrC zeroItm ⟨none,0,none,0⟩ zeroItm ⟨none,0,none,0⟩)∧Blk wx N 28 (hdrC p9 a9 u9 b9)∧
       Dealt w H wx H9 g∧H8.le H9∧H9 w1.heap.size=none∧H9 w.heap.size=none∧IsItem H9 a9.ba a9.bc a9.ia a9.ic p9∧IsItem H9 b9.ba b9.bc b9.ia b9.ic u9∧Modest p9∧Modest u9∧
       (cc=0→validH p9 u9=true∧szL p9≤szL p'+27∧szL u9≤szL u'+27))
      case first =>
       have hC:=hC11.drew;have hT:=hT11.drew;have hN:=hN11.drew;have hd:=hd11.drew;have hle:=Snap.le.refl H8
       refine wp_region_ways 9 (fun w'=>w'.cell? ⟨w1.heap.size,0,none⟩=some (.int .i64 p'.kind)∧w'.cell? ⟨w1.heap.size,1,none⟩=some (.int .u64 p'.n)∧w'.cell? ⟨w1.heap.size,2,none⟩=some (.slice a'.ba p'.bytes.length a'.bc)∧w'.cell? ⟨w1.heap.size,3,none⟩=some (.slice a'.ia p'.items.length a'.ic)∧w'.cell? ⟨w1.heap.size,4,none⟩=some (.int .i64 u'.kind)∧w'.cell? ⟨w1.heap.size,5,none⟩=some (.int .u64 u'.n)∧w'.cell? ⟨w1.heap.size,6,none⟩=some (.slice b'.ba u'.bytes.length b'.bc)∧w'.cell? ⟨w1.heap.size,7,none⟩=some (.slice b'.ia u'.items.length b'.ic)) (by kernel_rfl) (⟨hC.cell 0 rfl,hC.cell 1 rfl,hC.cell 2 rfl,hC.cell 3 rfl,hC.cell 4 rfl,hC.cell 5 rfl,hC.cell 6 rfl,hC.cell 7 rfl⟩) (fun hHeld=>?_)
       refine Tk 0 rfl hHeld ?_
       refine To 1 rfl fun K hK=>?_
       go_simp
       refine(ref_Int 98 (by omega) (by omega) _ hd.holds).mono ?_
       rintro e w4 ⟨v4,rfl,ja,jb,jc,jd,H4,rfl,hG4,hi4⟩
       have hnN:=hG4.none hnN hN.lt;have hN:=hN.below hG4.below;have hnT:=hG4.none hnT hT.lt;have hnC:=hG4.none hnC hC.lt;have hC:=hC.below hG4.below;have hT:=hT.below hG4.below;have hle:=hle.trans hG4.le;have hd:=hd.grown hG4
       refine Ko hK ?_ fun hHeld=>?_
       ·exact⟨hC.cell 0 rfl,hC.cell 1 rfl,hC.cell 2 rfl,hC.cell 3 rfl,hC.cell 4 rfl,hC.cell 5 rfl,hC.cell 6 rfl,hC.cell 7 rfl⟩
       clear hK K
       refine To 2 rfl fun K hK=>?_
       go_simp
       have hO:=OwnI.lit (w:=w4) (ItemsC.one hi4) w4.heap.size (Nat.le_refl _) (by simp);have hC:=hC.alloc (.cells (itemC (intP 98) ja jb jc jd).toArray 26);have hT:=hT.alloc (.cells (itemC (intP 98) ja jb jc jd).toArray 26);have hwN:=hN.lt;have hN:=hN.alloc (.cells (itemC (intP 98) ja jb jc jd).toArray 26);have hd:=hd.alloc (.cells (itemC (intP 98) ja jb jc jd).toArray 26);obtain⟨H5,hl5,hh5,hf5,hz5,hle1,hle2,hel5⟩:=hO.snap hd.holds (fun q hq=>by cases hq;exact hG4.holds.none_of_ge (Nat.le_refl _));have hk5:∀ q,q<w4.heap.size→H4 q=none→H5 q=none:=fun q hq h0=>snap_keep hf5 h0 (fun e=>by simp at e;omega)
       have hd:=hd.snap (B:=w4.heap.size) hl5 hh5 hf5 (fun q hq=>by simp at hq;omega) (by omega) hgl;have hnN:=hk5 _ hwN hnN;have hnT:=hk5 _ (by omega) hnT;have hnC:=hk5 _ (by omega) hnC;have hle:=hle.trans hl5
       refine Ko hK ?_ fun hHeld=>?_
       ·exact⟨hC.cell 0 rfl,hC.cell 1 rfl,hC.cell 2 rfl,hC.cell 3 rfl,hC.cell 4 rfl,hC.cell 5 rfl,hC.cell 6 rfl,hC.cell 7 rfl⟩
       clear hK K
       refine To 3 rfl fun K hK=>?_
       go_simp
       refine(ref_List (l:=[intP 98]) ⟨hle1,hle2,hel5⟩ (ModestL.of fun y hy=>by rw[List.mem_singleton.1 hy];exact modest_int 98) (by simp) _ hd.holds).mono ?_
       rintro e w7 ⟨v7,rfl,la,lb,lc,ld,H7,rfl,hG7,hi7⟩
       have hnN:=hG7.none hnN hN.lt;have hN:=hN.below hG7.below;have hnT:=hG7.none hnT hT.lt;have hnC:=hG7.none hnC hC.lt;have hC:=hC.below hG7.below;have hT:=hT.below hG7.below;have hle:=hle.trans hG7.le;have hd:=hd.grown hG7
       refine Ko hK ?_ fun hHeld=>?_
       ·exact⟨hC.cell 0 rfl,hC.cell 1 rfl,hC.cell 2 rfl,hC.cell 3 rfl,hC.cell 4 rfl,hC.cell 5 rfl,hC.cell 6 rfl,hC.cell 7 rfl⟩
       clear hK K
       refine To 4 rfl fun K hK=>?_
       go_simp
       refine(ref12_Put (hTab.mono hd.le) (a:=a') (b:=b') (d:=⟨la,lb,lc,ld⟩) (hp'.mono hle) (hu'.mono hle) hi7 true 2 (by omega) (by omega) _ hd.holds).mono ?_
       rintro e w9 ⟨p9,u9,val,cc,rfl,⟨a9,b9,H9,rfl,hG9,hp9,hu9⟩,hc0,hmp9,hmu9,hex⟩
       have hnN:=hG9.none hnN hN.lt;have hN:=hN.below hG9.below;have hnT:=hG9.none hnT hT.lt;have hnC:=hG9.none hnC hC.lt;have hC:=hC.below hG9.below;have hT:=hT.below hG9.below;have hle:=hle.trans hG9.le;have hd:=hd.grown hG9
       refine Ko hK ?_ fun hHeld=>?_
       ·exact⟨hC.cell 0 rfl,hC.cell 1 rfl,hC.cell 2 rfl,hC.cell 3 rfl,hC.cell 4 rfl,hC.cell 5 rfl,hC.cell 6 rfl,hC.cell 7 rfl⟩
       clear hK K
       refine Tk 5 rfl hHeld ?_
       refine Tk 6 rfl hHeld ?_
       refine Tk 7 rfl hHeld ?_
       refine To 8 rfl fun K hK=>?_
       rw[if_pos (by rfl)]
       refine wp_store_item _ _ _ rfl _ _ rfl rfl _ _ hN size_hdr rfl (hdr_one _ _ _ _) fun w10 hN hg10=>?_
       have hC:=hC.gr hg10 (by omega);have hT:=hT.gr hg10 (by omega);have hd:=hd.grownRow (row:=some N) (by rintro q ⟨⟩;exact hnN) (by rintro q ⟨⟩;omega) hgl hg10
       refine Ko hK ?_ fun hHeld=>?_
       ·exact⟨hC.cell 0 rfl,hC.cell 1 rfl,hC.cell 2 rfl,hC.cell 3 rfl,hC.cell 4 rfl,hC.cell 5 rfl,hC.cell 6 rfl,hC.cell 7 rfl⟩
       clear hK K
       refine To 9 rfl fun K hK=>?_
       go_simp
       refine Kz hK ?_
       clear hK K
       refine Wd ?_
       go_wp2_with fail
       go_meet
       exact⟨cc,p9,u9,a9,b9,H9,rfl,hC,hT,hN,hd,hle,hnC,hnT,hp9,hu9,hmp9,hmu9,fun h0=>by obtain⟨x1,x2,x3⟩:=hc0 h0;have:=crit_mod.2;exact⟨x1,by omega,by omega⟩⟩
      case rest =>
       clear hC11 hT11 hN11 hd11 hnC hnT hnN;obtain⟨cc,p9,u9,a9,b9,H9,rfl,hC,hT,hN,hd,hle9,hnC,hnT,hp9,hu9,hmp9,hmu9,hc9⟩:=hcut;have HC9:=Hh hc9;have hp':=hp'.mono hle9;have hu':=hu'.mono hle9;clear hc9
       by_cases hcc:cc=0
       ·subst hcc;have HK9:=Hh (HC9.out rfl);clear HC9;go_upto_region 19 with fail
        have n0':=hN.cell 0 rfl;have n1':=hN.cell 1 rfl;have n2':=hN.cell 2 rfl;have n3':=hN.cell 3 rfl;have n4':=hN.cell 4 rfl;have n5':=hN.cell 5 rfl;have n6':=hN.cell 6 rfl;have n7':=hN.cell 7 rfl;go_wp2_with (with_reducible refine stop_store ?_)
        refine wpList_store_item rfl _ _ _ rfl rfl _ _ rfl rfl _ _ hC size_hdr rfl (hdr_one _ _ _ _) fun w12 hC hg12=>?_
        have hT:=hT.gr hg12 (by omega);have hd:=hd.grownRow (row:=some w1.heap.size) (by rintro q ⟨⟩;exact hnC) (by rintro q ⟨⟩;omega) hgl hg12;clear hN n0' n1' n2' n3' n4' n5' n6' n7';have k0':=hC.cell 0 rfl;have k1':=hC.cell 1 rfl;have k2':=hC.cell 2 rfl;have k3':=hC.cell 3 rfl;have k4':=hC.cell 4 rfl;have k5':=hC.cell 5 rfl;have k6':=hC.cell 6 rfl;have k7':=hC.cell 7 rfl;go_wp2_with (with_reducible refine stop_store ?_)
        refine wpList_store_item rfl _ _ _ rfl rfl _ _ rfl rfl _ _ hT size_hdr rfl (hdr_one _ _ _ _) fun wz hTz hgz=>?_
        have hdz:=hd.gb hnT (Nat.le_refl _) hgl hgz;go_wp2_with fail
        refine ret_row rfl rfl hTz rfl rfl size_hdr rfl ?_
        exact⟨p9,u9,a9,b9,H9,rfl,hdz,hp9,hu9,hmp9,hmu9,fun h10=>by obtain⟨z1,z2,z3⟩:=HK2.out h10;obtain⟨x1,x2,x3⟩:=HK8.out;obtain⟨y1,y2,y3⟩:=HK9.out;exact⟨y1,by omega⟩⟩
       ·have b1:(cc==0)=false:=by simp[hcc]
        have p1:(cc=0)=False:=eq_false hcc;clear hcc;go_upto_region 20 with fail
        have k0':=hC.cell 0 rfl;have k1':=hC.cell 1 rfl;have k2':=hC.cell 2 rfl;have k3':=hC.cell 3 rfl;have k4':=hC.cell 4 rfl;have k5':=hC.cell 5 rfl;have k6':=hC.cell 6 rfl;have k7':=hC.cell 7 rfl;go_wp2_with (with_reducible refine stop_store ?_)
        refine wpList_store_item rfl _ _ _ rfl rfl _ _ rfl rfl _ _ hT size_hdr rfl (hdr_one _ _ _ _) fun wz hTz hgz=>?_
        have hdz:=hd.gb hnT (Nat.le_refl _) hgl hgz;go_wp2_with fail
        refine ret_row rfl rfl hTz rfl rfl size_hdr rfl ?_
        exact⟨p',u',a',b',H9,rfl,hdz,hp',hu',hmp',hmu',fun h10=>by obtain⟨z1,z2,z3⟩:=HK2.out h10;obtain⟨x1,x2,x3⟩:=HK8.out;exact⟨x1,by omega⟩⟩
     ·have hb:((j:Int)==5)=false∨(((j:Int)==5)=true∧(cc==0)=false):=by
       by_cases h5:j=5
       ·right;exact⟨by simp[h5],by have:cc≠0:=fun h=>hgo ⟨h5,h⟩;simp[this]⟩
       ·left;rw[beq_eq_false_iff_ne];omega
      clear hgo
      rcases hb with hb | ⟨hb,hb2⟩
      ·go_upto_region 20 with fail
       have k0':=hC.cell 0 rfl;have k1':=hC.cell 1 rfl;have k2':=hC.cell 2 rfl;have k3':=hC.cell 3 rfl;have k4':=hC.cell 4 rfl;have k5':=hC.cell 5 rfl;have k6':=hC.cell 6 rfl;have k7':=hC.cell 7 rfl;go_wp2_with (with_reducible refine stop_store ?_)
       refine wpList_store_item rfl _ _ _ rfl rfl _ _ rfl rfl _ _ hT size_hdr rfl (hdr_one _ _ _ _) fun wz hTz hgz=>?_
       have hdz:=hd.gb hnT (Nat.le_refl _) hgl hgz;go_wp2_with fail
       refine ret_row rfl rfl hTz rfl rfl size_hdr rfl ?_
       exact⟨p,u,a,b,H8,rfl,hdz,hp,hu,hmp,hmu,fun h10=>by obtain⟨z1,z2,z3⟩:=HK2.out h10;exact⟨z1,by omega⟩⟩
      ·go_upto_region 20 with fail
       have k0':=hC.cell 0 rfl;have k1':=hC.cell 1 rfl;have k2':=hC.cell 2 rfl;have k3':=hC.cell 3 rfl;have k4':=hC.cell 4 rfl;have k5':=hC.cell 5 rfl;have k6':=hC.cell 6 rfl;have k7':=hC.cell 7 rfl;go_wp2_with (with_reducible refine stop_store ?_)
       refine wpList_store_item rfl _ _ _ rfl rfl _ _ rfl rfl _ _ hT size_hdr rfl (hdr_one _ _ _ _) fun wz hTz hgz=>?_
       have hdz:=hd.gb hnT (Nat.le_refl _) hgl hgz;go_wp2_with fail
       refine ret_row rfl rfl hTz rfl rfl size_hdr rfl ?_
       exact⟨p,u,a,b,H8,rfl,hdz,hp,hu,hmp,hmu,fun h10=>by obtain⟨z1,z2,z3⟩:=HK2.out h10;exact⟨z1,by omega⟩⟩
theorem Dealt.toGrows {w w1 w2:World}{H H1 H2:Snap}{g:Nat}(h:Grows w H w1 H1) (hd:Dealt w1 H1 w2 H2 g) (hg:w.heap.size≤g):Grows w H w2 H2 :=
 ⟨h.below.grown hd.grows.grown h.size (by rintro q ⟨⟩;exact hg),h.le.trans hd.le,hd.holds,fun b o hb=>by
  rcases hd.grows.fresh b o hb with h1 | h1
  ·exact h.fresh b o h1
  ·exact .inr (Nat.le_trans h.size h1)⟩
def HdrsSaid (w:World) (H:Snap) (e:Ending) (w':World):Prop:=∃ (p u:Itm) (a b:Ad) (H':Snap),e=.returned (.agg (hdrC p a u b))∧Grows w H w' H'∧IsItem H' a.ba a.bc a.ia a.ic p∧IsItem H' b.ba b.bc b.ia b.ic u
theorem law13_headers {H:Snap}(hTab:Tabs H) {p u:Itm}{a b:Ad}(hp:IsItem H a.ba a.bc a.ia a.ic p) (hu:IsItem H b.ba b.bc b.ia b.ic u) {A:Option Addr}{c:Nat}{l:List Int}(hl:IsInts H A c l) (w:World) (hH:Holds w H) :
  Calls Tryz.prog 6 #[.agg (hdrC p a u b),.slice A l.length c] w (HdrsSaid w H):=by
 have hB:=(Blk.new w 28 (hdrC p a u b)).alloc zeroH;have hT:=Blk.new (w.alloc (.cells (hdrC p a u b) 28)) 28 (hdrC zeroItm ⟨none,0,none,0⟩ zeroItm ⟨none,0,none,0⟩)
 simp only[size_alloc]at hT
 have hG:=((Grows.refl hH).alloc (.cells (hdrC p a u b) 28)).alloc zeroH;have hn0:H (w.heap.size+1)=none:=hH.none_of_ge (by omega);obtain⟨g,hg⟩:∃ g,w.heap.size+1+1=g:=⟨_,rfl⟩
 have NW:=Hh (mk_New hl ((w.alloc (.cells (hdrC p a u b) 28)).alloc zeroH));have hgz:((w.alloc (.cells (hdrC p a u b) 28)).alloc zeroH).heap.size=g:=by rw[← hg];simp
 rw[hgz]at NW;have hgs:w.heap.size+2≤g:=by omega
 have hgH:H g=none:=hH.none_of_ge (by omega);have hHg:=Hh hgz;clear hgz hg;go_enter Tryz.func6,Tryz.ntmps6
 go_wp2_with fail
 refine NW.out.mono ?_
 rintro e w1 ⟨rfl,hdk,hb1⟩
 have hb1:Below ((w.alloc (.cells (hdrC p a u b) 28)).alloc zeroH).heap.size ((w.alloc (.cells (hdrC p a u b) 28)).alloc zeroH) w1:=by rw[hHg.out];exact hb1
 have hG1:=hG.below_ hb1;have hB1:=hB.below hb1;have hT1:=hT.below hb1;have hD1:DeckIn w1 g H:=⟨hdk,hG1.holds,hgH⟩
 have N9:=Hh (deck_Next w1 hD1 9 (by omega) (by omega));clear hdk hb1 hG hB hT;go_wp2_with fail
 refine N9.out.mono ?_
 rintro e w2 ⟨q,rfl,hq,hd2⟩
 have BB:=hB1.dealt hd2 (by omega);have hT2:=hT1.dealt hd2 (by omega);have hG2:=Dealt.toGrows hG1 hd2 (by omega);clear N9
 by_cases h8:q=8
 ·subst h8;have k0:=BB.cell 0 rfl;have k1:=BB.cell 1 rfl;have k2:=BB.cell 2 rfl;have k3:=BB.cell 3 rfl;have k4:=BB.cell 4 rfl;have k5:=BB.cell 5 rfl;have k6:=BB.cell 6 rfl;have k7:=BB.cell 7 rfl;go_upto_region 3 with fail
  go_wp2_with (with_reducible refine stop_store ?_)
  refine wpList_store_item rfl _ _ _ rfl rfl _ _ rfl rfl _ _ hT2 size_hdr rfl (hdr_one _ _ _ _) fun w3 hT3 hg3=>?_
  have hG3:=hG2.grownOwn hn0 (by omega) hg3;go_wp2_with fail
  refine ret_row rfl rfl hT3 rfl rfl size_hdr rfl ?_
  exact⟨p,u,a,b,H,rfl,hG3,hp,hu⟩
 ·have b8:((q:Int)==8)=false:=by rw[beq_eq_false_iff_ne];omega
  have hR:=Blk.new w2 3 #[.int .i64 10,.int .i64 30,.int .i64 5,.int .i64 4,.int .i64 (-8),.int .i64 0];have hd3:=hd2.alloc (.cells #[.int .i64 10,.int .i64 30,.int .i64 5,.int .i64 4,.int .i64 (-8),.int .i64 0] 3);have hT3:=hT2.alloc (.cells #[.int .i64 10,.int .i64 30,.int .i64 5,.int .i64 4,.int .i64 (-8),.int .i64 0] 3);have N6:=Hh (deck_Next _ hd3.deck 6 (by omega) (by omega));clear h8;go_wp2_with fail
  refine N6.out.mono ?_
  rintro e w4 ⟨j,rfl,hj,hd4⟩
  have hR4:=hR.dealt hd4 (by have:=hd2.size;have:=hD1.deck.lt;omega);obtain⟨v,hc,hP⟩:=hR4.pick isI64 (by kernel_rfl) j (by simp;omega);obtain⟨nn,rfl,hnn⟩:=isI64_spec hP;have hT4:=hT3.dealt hd4 (by omega);have hd5:=hd3.trans hd4;have hnT5:=hd5.hid hn0 hT1.lt;have HD:=Hh (mk_Headers hTab w4 hd5.deck nn hnn.1 hnn.2);clear N6 hR hR4 hP hd2 hd3 hd4 hT2 hT3 BB hB1;go_wp2_with fail
  refine HD.out.mono ?_
  rintro e w6 ⟨p',u',a',b',H',rfl,hd6,hp',hu',_⟩
  have hT6:=hT4.dealt hd6 (by omega);have hn6:=hd6.hid hnT5 hT4.lt;have hG6:=Dealt.toGrows hG1 (hd5.trans hd6) (by omega);clear HD hc hd5 hd6 hT4 hG1 hG2;go_wp2_with (with_reducible refine stop_store ?_)
  refine wpList_store_item rfl _ _ _ rfl rfl _ _ rfl rfl _ _ hT6 size_hdr rfl (hdr_one _ _ _ _) fun w7 hT7 hg7=>?_
  have hG7:=hG6.grownOwn hn6 (by omega) hg7;go_wp2_with fail
  refine ret_row rfl rfl hT7 rfl rfl size_hdr rfl ?_
  exact⟨p',u',a',b',H',rfl,hG7,hp',hu'⟩
end Go.Proofs.YtgcjjhibdbafmaaGreatDoor
