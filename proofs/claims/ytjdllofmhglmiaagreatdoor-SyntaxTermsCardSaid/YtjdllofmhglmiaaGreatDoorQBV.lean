import Derived.Test.YtjdllofmhglmiaaGreatDoorQBU
import Derived.Test.YtjdllofmhglmiaaGreatDoorQBF
namespace Go.Proofs.YtjdllofmhglmiaaGreatDoor
open Lib(hid)
set_option linter.all false
set_option maxHeartbeats 40000000
set_option maxRecDepth 100000
section
abbrev MZ1 (E:Env) (k:Nat):Nat:=FB E k
theorem NZ1 {E:Env}{k:Nat} (h:E.l.length<=k):MZ1 E k=E.s.length:=by unfold MZ1 FB;rw [As h]
theorem OZ1 {E:Env}{k:Nat}{u:Tk} (h:E.l[k]?=some u):MZ1 E k=u.fr:=by unfold MZ1 FB;rw [h]
namespace Rf
open Go.RowKit
variable {w w':World}
def zTv:Value:=.agg #[.int .u8 0,i8 0,i8 0,i8 0,.slice none 0 0]
def kX3 (r:qK) (w:World) (e:Ending) (w':World):Prop :=
 match r with
 | .bad err a=>e=.returned (.tuple #[.slice none 0 0,zTv,qA err a])/\Below w.heap.size w w'
 | .ok l t=>∃ lv ka cap,e=.returned (.tuple #[lv,tv t ka cap,qA 0 0])/\w'.ownsRow w.heap.size 56 3 lv l.length (BF l)/\eX0 w' (fun b=>b < w'.heap.size) ka t.kids/\Below w.heap.size w w'
def rtR (E:Env) (goal:UInt8) (t:Tr) (s:St):qK:=match (QH E goal s).b with
 | none=>.ok E.l t
 | some k=>.bad 7 (MZ1 E k)
theorem OX9 {s:List UInt8}{l:List Tk}{p:List Int}{goal:UInt8} (hg:¬ (goal < 1∨4 < goal)) (hN:kE s=.ok l p) (hP:∀ x∈p,-1<=x) :
  ∃ t st,oX0 ⟨s,l,p⟩ (bX1 ⟨s,l,p⟩) (PX5 goal) ⟨0,none⟩=some (t,st)/\tD kE goal s=rtR ⟨s,l,p⟩ goal t st:=by
 obtain⟨t,st,h1,h2⟩:=oX6 (E:=⟨s,l,p⟩) hP goal;refine⟨t,st,h1,?_⟩;unfold tD rtR;rw [Bc hg,hN]
 dsimp only
 cases ht:FD ⟨s,l,p⟩ goal with
 | ok u m=>rw [ht] at h2;obtain⟨h2,rfl,_⟩:=h2;rw [h2]
 | bad k=>rw [ht] at h2;dsimp only at h2;rw [h2]
 | out=>rw [ht] at h2;exact h2.elim
structure TX0 (E:Ev) (c Bt:Nat) (w0:World) (t:Tr) (s:St) (wx:World):Prop where
 pd:Pd E c s wx
 box:∃ ka cap,wx.heap[Bt]?=some (.cells (cel (t,ka,cap)).toArray 60 (0,0))/\eX0 wx (fun b=>Bt < b/\b < wx.heap.size) ka t.kids
 f5:wx.heap[w0.heap.size]?=some (.cells #[.int .u8 0,i8 0,i8 0,i8 0,.slice none 0 0] 60 (0,0))
 f6:wx.heap[w0.heap.size+1]?=some (.cells #[i8 0,i8 0] 28 (0,0))
 toks:wx.ownsRow (w0.heap.size+2) 56 3 (.slice E.ta E.l.length E.tcap) E.l.length (BF E.l)
 tlt:∀ b,Value.ownBlock (.slice E.ta E.l.length E.tcap)=some b->b < c
 bel:Below w0.heap.size w0 wx
 lt:w0.heap.size+1 < c/\c < Bt
theorem qX1 {w0 wx:World}{v0 v1 v2 v3 v4 e a:Value} (h5:wx.heap[w0.heap.size]?=some (.cells #[.int .u8 0,i8 0,i8 0,i8 0,.slice none 0 0] 60 (0,0))) (h6:wx.heap[w0.heap.size+1]?=some (.cells #[i8 0,i8 0] 28 (0,0))) (hb:Below w0.heap.size w0 wx) :
  (((((((wx.setCell (y8 w0.heap.size 0) v0).setCell (y8 w0.heap.size 1) v1).setCell (y8 w0.heap.size 2) v2).setCell (y8 w0.heap.size 3) v3).setCell (y8 w0.heap.size 4) v4).setCell (y8 (w0.heap.size+1) 0) e).setCell (y8 (w0.heap.size+1) 1) a).heap[w0.heap.size]?=some (.cells #[v0,v1,v2,v3,v4] 60 (0,0))/\(((((((wx.setCell (y8 w0.heap.size 0) v0).setCell (y8 w0.heap.size 1) v1).setCell (y8 w0.heap.size 2) v2).setCell (y8 w0.heap.size 3) v3).setCell (y8 w0.heap.size 4) v4).setCell (y8 (w0.heap.size+1) 0) e).setCell (y8 (w0.heap.size+1) 1) a).heap[w0.heap.size+1]?=some (.cells #[e,a] 28 (0,0))/\Below w0.heap.size w0 (((((((wx.setCell (y8 w0.heap.size 0) v0).setCell (y8 w0.heap.size 1) v1).setCell (y8 w0.heap.size 2) v2).setCell (y8 w0.heap.size 3) v3).setCell (y8 w0.heap.size 4) v4).setCell (y8 (w0.heap.size+1) 0) e).setCell (y8 (w0.heap.size+1) 1) a):=by
 have a5:=BX1 (v0:=v0) (v1:=v1) (v2:=v2) (v3:=v3) (v4:=v4) h5;have ne:w0.heap.size≠w0.heap.size+1:=Cs
 have a6:=(Ah (((((wx.setCell (y8 w0.heap.size 0) v0).setCell (y8 w0.heap.size 1) v1).setCell (y8 w0.heap.size 2) v2).setCell (y8 w0.heap.size 3) v3)) (y8 w0.heap.size 4) v4 (w0.heap.size+1) Cu).trans ((Ah ((((wx.setCell (y8 w0.heap.size 0) v0).setCell (y8 w0.heap.size 1) v1).setCell (y8 w0.heap.size 2) v2)) (y8 w0.heap.size 3) v3 (w0.heap.size+1) Cu).trans ((Ah (((wx.setCell (y8 w0.heap.size 0) v0).setCell (y8 w0.heap.size 1) v1)) (y8 w0.heap.size 2) v2 (w0.heap.size+1) Cu).trans ((Ah ((wx.setCell (y8 w0.heap.size 0) v0)) (y8 w0.heap.size 1) v1 (w0.heap.size+1) Cu).trans ((Ah wx (y8 w0.heap.size 0) v0 (w0.heap.size+1) Cu).trans h6))));have hb5:=FX0 (v0:=v0) (v1:=v1) (v2:=v2) (v3:=v3) (v4:=v4) hb (C' _);generalize (((((wx.setCell (y8 w0.heap.size 0) v0).setCell (y8 w0.heap.size 1) v1).setCell (y8 w0.heap.size 2) v2).setCell (y8 w0.heap.size 3) v3).setCell (y8 w0.heap.size 4) v4)=w5 at *;refine⟨?_,VD a6 e a,(hb5.setCell (p:=(y8 (w0.heap.size+1) 0)) Cu e).setCell (p:=(y8 (w0.heap.size+1) 1)) Cu a⟩;rw [Ah _ _ _ _ Cu,Ah _ _ _ _ Cu];exact a5
theorem lX9 {s:List UInt8}{l:List Tk}{p:List Int}{w1 W:World}{ta pa:Option Addr}{tc pc lo c:Nat} (ht:w1.ownsRow lo 56 3 (.slice ta l.length tc) l.length (BF l)) (hp:w1.ownsRow lo 3 1 (.slice pa p.length pc) p.length (nG p)) (hf:jU s l p)
  (hF:Fr [] w1 W) (hc:w1.heap.size<=c) (hb:W.heap[c]?=some (.cells #[.string ⟨s.toArray⟩,.slice ta l.length tc,.slice pa p.length pc,i8 0,i8 (-1)] 75 (0,0))) {zb:Nat}{zo:Option Obj} :
  Pd { s:=s,l:=l,pair:=p,ta:=ta,tcap:=tc,pa:=pa,pcap:=pc,zb:=zb,zo:=zo } c ⟨0,none⟩ W:=by
 refine⟨hb,⟨fun i t h=>?_,hf.fits,I0⟩,⟨fun i x h=>?_,hf.same,hf.within⟩,Nat.zero_le _⟩
 ·exact zba
 ·exact zb3
theorem drc {w:World}{p:Addr}{v:Value} (h:w.cell? p=some v):w.drew.cell? p=some v:=h
theorem LX1 {w:World}{B b o:Nat}{v v0 v1 v2 v3 v4:Value} (h:w.cell? (y8 b o)=some v) (hn:B≠b):(((((w.setCell (y8 B 0) v0).setCell (y8 B 1) v1).setCell (y8 B 2) v2).setCell (y8 B 3) v3).setCell (y8 B 4) v4).cell? (y8 b o)=some v:=by
 rw [World.cell?_setCell_far _ (y8 B 4) (y8 b o) _ hn,World.cell?_setCell_far _ (y8 B 3) (y8 b o) _ hn,World.cell?_setCell_far _ (y8 B 2) (y8 b o) _ hn,World.cell?_setCell_far _ (y8 B 1) (y8 b o) _ hn,World.cell?_setCell_far _ (y8 B 0) (y8 b o) _ hn,h]
theorem xX0 {w:World}{B b o:Nat}{v v0 v1:Value} (h:w.cell? (y8 b o)=some v) (hn:B≠b):((w.setCell (y8 B 0) v0).setCell (y8 B 1) v1).cell? (y8 b o)=some v:=by
 rw [World.cell?_setCell_far _ (y8 B 1) (y8 b o) _ hn,World.cell?_setCell_far _ (y8 B 0) (y8 b o) _ hn,h]
theorem rX7 {E:Ev}{c Bt:Nat}{w0 wx:World}{t:Tr}{s:St}{v0 v1 v2 v3 v4 e a:Value}{ka:Option Addr} (h:TX0 E c Bt w0 t s wx) (hk:eX0 wx (fun b=>Bt < b/\b < wx.heap.size) ka t.kids) :
  (((((((wx.setCell (y8 w0.heap.size 0) v0).setCell (y8 w0.heap.size 1) v1).setCell (y8 w0.heap.size 2) v2).setCell (y8 w0.heap.size 3) v3).setCell (y8 w0.heap.size 4) v4).setCell (y8 (w0.heap.size+1) 0) e).setCell (y8 (w0.heap.size+1) 1) a).ownsRow w0.heap.size 56 3 (.slice E.ta E.l.length E.tcap) E.l.length (BF E.l)/\eX0 (((((((wx.setCell (y8 w0.heap.size 0) v0).setCell (y8 w0.heap.size 1) v1).setCell (y8 w0.heap.size 2) v2).setCell (y8 w0.heap.size 3) v3).setCell (y8 w0.heap.size 4) v4).setCell (y8 (w0.heap.size+1) 0) e).setCell (y8 (w0.heap.size+1) 1) a) (fun b=>b < (((((((wx.setCell (y8 w0.heap.size 0) v0).setCell (y8 w0.heap.size 1) v1).setCell (y8 w0.heap.size 2) v2).setCell (y8 w0.heap.size 3) v3).setCell (y8 w0.heap.size 4) v4).setCell (y8 (w0.heap.size+1) 0) e).setCell (y8 (w0.heap.size+1) 1) a).heap.size) ka t.kids:=by
 have hF:Fr [w0.heap.size,w0.heap.size+1] wx (((((((wx.setCell (y8 w0.heap.size 0) v0).setCell (y8 w0.heap.size 1) v1).setCell (y8 w0.heap.size 2) v2).setCell (y8 w0.heap.size 3) v3).setCell (y8 w0.heap.size 4) v4).setCell (y8 (w0.heap.size+1) 0) e).setCell (y8 (w0.heap.size+1) 1) a):=((((((Fr.set.weaken Ei).trans (Fr.set.weaken Ei)).trans (Fr.set.weaken Ei)).trans (Fr.set.weaken Ei)).trans (Fr.set.weaken Ei)).trans (Fr.set.weaken Ei)).trans (Fr.set.weaken Ei);have hs:=hF.size;have hl:=h.lt;generalize (((((((wx.setCell (y8 w0.heap.size 0) v0).setCell (y8 w0.heap.size 1) v1).setCell (y8 w0.heap.size 2) v2).setCell (y8 w0.heap.size 3) v3).setCell (y8 w0.heap.size 4) v4).setCell (y8 (w0.heap.size+1) 0) e).setCell (y8 (w0.heap.size+1) 1) a)=w9 at *;exact⟨YP (CD h.toks hF (fun b hb e=>by have:=(h.toks.lt b e).1;simp at hb;omega)) Cs,hk.kept (fun b hb=>hF.block b hb.2 Cv) (fun b hb=>Cs)⟩
theorem gX9 {E:Env}{goal:UInt8}{s:St} (h:goal<=2/\nx E [59] s=true/\s.n+1=E.l.length):QH E goal s=(if ends E (if true=true then s.up else s)=true then (if true=true then s.up else s) else vX0 (if true=true then s.up else s)):=by unfold QH;simp only [Bb h,Be]
theorem oX3 {E:Env}{goal:UInt8}{s:St} (h:¬ (goal<=2/\nx E [59] s=true/\s.n+1=E.l.length)):QH E goal s=(if ends E (if false=true then s.up else s)=true then (if false=true then s.up else s) else vX0 (if false=true then s.up else s)):=by unfold QH;simp only [Bc h,Ba,Bf]
theorem TX0.frame {E:Ev}{c Bt:Nat}{w0 wx wy:World}{t:Tr}{s s2:St} (h:TX0 E c Bt w0 t s wx) (hp:Pd E c s2 wy) (hf:Fr [c] wx wy):TX0 E c Bt w0 t s2 wy:=by
 obtain⟨ka,cap,h1,h2⟩:=h.box;obtain⟨l1,l2⟩:=h.lt;exact⟨hp,⟨ka,cap,hf.at_ Cv h1,h2.kept (fun b hb=>hf.block b hb.2 Cv) (fun b hb=>⟨hb.1,Aj hb.2 hf.size⟩)⟩,hf.at_ Cv h.f5,hf.at_ Cv h.f6,CD h.toks hf (fun b hb e=>by simp at hb;have:=h.tlt b e;omega),h.tlt,Fr.below_of hf h.bel Cs,h.lt⟩
theorem TX0.moved {E:Ev}{c Bt:Nat}{w0 wx:World}{t:Tr}{s:St} (h:TX0 E c Bt w0 t s wx) (hm:s.n+1=E.l.length):TX0 E c Bt w0 t s.up (wx.setCell (y8 c 3) (i8 ((s.n:Int)+1))) :=
 h.frame (h.pd.moved (s.n+1) Cs) (Fr.set (a:=(y8 c 3)))
theorem TX0.failed {E:Ev}{c Bt:Nat}{w0 wx wy:World}{t:Tr}{s:St} (h:TX0 E c Bt w0 t s wx) (hp:Pd E c (vX0 s) wy) (hf:Fr [c] wx wy):TX0 E c Bt w0 t (vX0 s) wy:=h.frame hp hf
theorem TX0.below {E:Ev}{c Bt:Nat}{w0 wx wy:World}{t:Tr}{s:St} (h:TX0 E c Bt w0 t s wx) (hb:Below wx.heap.size wx wy):TX0 E c Bt w0 t s wy:=by
 obtain⟨ka,cap,h1,h2⟩:=h.box;exact⟨h.pd.below hb,⟨ka,cap,(hb.block _ (lt_of_block h1)).trans h1,h2.kept (fun b hb2=>hb.block b hb2.2) (fun b hb2=>⟨hb2.1,Aj hb2.2 hb.size⟩)⟩,(hb.block _ (lt_of_block h.f5)).trans h.f5,(hb.block _ (lt_of_block h.f6)).trans h.f6,LD h.toks hb,h.tlt,h.bel.trans (hb.mono h.bel.size),h.lt⟩
theorem BX9 {E:Ev}{c lo:Nat}{w wC w4:World}{t:Tr}{st:St}{ka:Option Addr}{cap:Nat} (hss:w.heap.size+1 < c/\c < wC.heap.size) (hsc:wC.heap.size=c+2) (hbx:wC.heap[c+1]?=some (.cells #[.int .u8 0,i8 0,i8 0,i8 0,.slice none 0 0] 60 (0,0)))
  (h5:wC.heap[w.heap.size]?=some (.cells #[.int .u8 0,i8 0,i8 0,i8 0,.slice none 0 0] 60 (0,0))) (h6:wC.heap[w.heap.size+1]?=some (.cells #[i8 0,i8 0] 28 (0,0))) (hbb:Below w.heap.size w wC)
  (hr:wC.ownsRow lo 56 3 (.slice E.ta E.l.length E.tcap) E.l.length (BF E.l)) (hlo:w.heap.size+2<=lo) (htl:∀ b,Value.ownBlock (.slice E.ta E.l.length E.tcap)=some b->b < c) (hpd:Pd E c st w4) (hk:eX0 w4 (fun b=>(False∨wC.heap.size<=b)/\b < w4.heap.size) ka t.kids) (hf:Fr [c] wC w4) :
  TX0 E c (c+1) w t st (((((w4.setCell (y8 (c+1) 0) (.int .u8 (t.kind.toNat:Int))).setCell (y8 (c+1) 1) (i8 t.word)).setCell (y8 (c+1) 2) (i8 (t.fr:Int))).setCell (y8 (c+1) 3) (i8 (t.to:Int))).setCell (y8 (c+1) 4) (.slice ka t.kids.length cap)):=by
 have hb4:=hf.at_ (k:=c+1) Cu hbx;have hs:=BX1 (v0:=.int .u8 (t.kind.toNat:Int)) (v1:=i8 t.word) (v2:=i8 (t.fr:Int)) (v3:=i8 (t.to:Int)) (v4:=.slice ka t.kids.length cap) hb4;have hF:Fr [c+1] w4 _:=((((Fr.set (w:=w4) (a:=(y8 (c+1) 0)) (v:=.int .u8 (t.kind.toNat:Int))).trans (Fr.set (a:=(y8 (c+1) 1)) (v:=i8 t.word))).trans (Fr.set (a:=(y8 (c+1) 2)) (v:=i8 (t.fr:Int)))).trans (Fr.set (a:=(y8 (c+1) 3)) (v:=i8 (t.to:Int)))).trans (Fr.set (a:=(y8 (c+1) 4)) (v:=.slice ka t.kids.length cap));generalize (((((w4.setCell (y8 (c+1) 0) (.int .u8 (t.kind.toNat:Int))).setCell (y8 (c+1) 1) (i8 t.word)).setCell (y8 (c+1) 2) (i8 (t.fr:Int))).setCell (y8 (c+1) 3) (i8 (t.to:Int))).setCell (y8 (c+1) 4) (.slice ka t.kids.length cap))=w5 at *;have hw:=hF.size;refine⟨hpd.later hF Cu,⟨ka,cap,hs,hk.kept (fun b hb=>hF.block b hb.2 (by simp;have:=hb.1.resolve_left id;omega)) (fun b hb=>⟨by have:=hb.1.resolve_left id;omega,Cs⟩)⟩,hF.at_ Cv (hf.at_ Cv h5),hF.at_ Cv (hf.at_ Cv h6),?_,htl,?_,Cs⟩
 ·exact YP (CD (CD hr hf (fun b hb e=>by simp at hb;have:=htl b e;omega)) hF (fun b hb e=>by simp at hb;have:=htl b e;omega)) hlo
 ·exact Fr.below_of hF (Fr.below_of hf hbb Cs) Cs
theorem LX4 (goal:UInt8) (s:List UInt8):Calls Tryz.prog 22 #[.int .u8 (goal.toNat:Int),.string ⟨s.toArray⟩] w (kX3 (tD kE goal s) w):=by
 obtain⟨wA,hwA⟩:∃ wA,wA=(w.alloc (.cells #[.int .u8 0,i8 0,i8 0,i8 0,.slice none 0 0] 60)).alloc (.cells #[i8 0,i8 0] 28):=⟨_,rfl⟩;have h5:=B8 w (.cells #[.int .u8 0,i8 0,i8 0,i8 0,.slice none 0 0] 60);have h6:=B8 (w.alloc (.cells #[.int .u8 0,i8 0,i8 0,i8 0,.slice none 0 0] 60)) (.cells #[i8 0,i8 0] 28);rw [World.size_alloc] at h6;have h5':=(Af (w.alloc (.cells #[.int .u8 0,i8 0,i8 0,i8 0,.slice none 0 0] 60)) (.cells #[i8 0,i8 0] 28) w.heap.size (lt_of_block h5)).trans h5;have hB:=((N' w.heap.size w).alloc (C' _) (Obj.cells #[.int .u8 0,i8 0,i8 0,i8 0,.slice none 0 0] 60)).alloc Cu (Obj.cells #[i8 0,i8 0] 28);have hsz:((w.alloc (.cells #[.int .u8 0,i8 0,i8 0,i8 0,.slice none 0 0] 60)).alloc (.cells #[i8 0,i8 0] 28)).heap.size=w.heap.size+2:=Cu
 rw [<- hwA] at h6 h5' hB hsz;have H5:=hid h5';have H6:=hid h6;have HBB:=hid hB;have HSZ:=hid hsz;clear h5 h6 h5' hB hsz;by_cases hg:goal < 1∨4 < goal
 ·have hr:tD kE goal s=.bad 1 0:=by unfold tD;rw [Bb hg]
  rw [hr];have hg2:((goal.toNat:Nat):Int) < 1∨4 < ((goal.toNat:Nat):Int):=by
   exact zcr
  clear hg hr
  go_in
  go_upto_region 1 with fail;rw [<- hwA];clear hwA;obtain⟨a0,a1,a2,a3,a4,b0,b1,b2,b3,b4⟩:=pX0 H5.out;obtain⟨c0,c1,f0,f1⟩:=tA H6.out;go_wp2_with fail
  all_goals
   have HF:=hid (qX1 (v0:=(.int .u8 0)) (v1:=(i8 0)) (v2:=(i8 0)) (v3:=(i8 0)) (v4:=(.slice none 0 0)) (e:=(i8 1)) (a:=(i8 0)) H5.out H6.out HBB.out);obtain⟨q0,q1,q2,q3,q4,_⟩:=pX0 HF.out.1;obtain⟨q5,q6,_⟩:=tA HF.out.2.1;generalize ((((((wA.setCell (y8 w.heap.size 0) (.int .u8 0)).setCell (y8 w.heap.size 1) (i8 0)).setCell (y8 w.heap.size 2) (i8 0)).setCell (y8 w.heap.size 3) (i8 0)).setCell (y8 w.heap.size 4) (.slice none 0 0)).setCell (y8 (w.heap.size+1) 0) (i8 1)).setCell (y8 (w.heap.size+1) 1) (i8 0)=w9 at *;refine Ca (v:=.tuple #[.slice none 0 0,zTv,qA 1 0]) ?_ rfl ⟨rfl,HF.out.2.2⟩;simp [results,Tryz.results22,go_sem,q0,q1,q2,q3,q4,q5,q6,qA,zTv]
 have g1:decide (((goal.toNat:Nat):Int) < 1)=false:=by
  exact zd4
 have g2:decide (4 < ((goal.toNat:Nat):Int))=false:=by
  exact zd5
 have HA:=hid (fun w1:World=>Ck.rnest_walk (w:=w1) s);cases hN:FH s with
 | bad er a =>
  have hr:tD kE goal s=.bad er a:=by unfold tD kE;rw [Bc hg,hN]
  have hne0:=gM.bad s er a (by unfold kE;rw [hN]);have hne2:(((er:Nat):Int)==0)=false:=by simpa using hne0
  rw [hr];rw [hN] at HA;unfold fJ qA at HA;clear hr hN hg hne0
  go_in
  go_upto_region 1 with fail;rw [<- hwA];clear hwA;go_upto_region 4 with (go_at_call 28;refine (HA.out wA).mono ?_;rintro e w1 ⟨rfl,hb⟩);have hbb:=hid (HBB.out.trans (hb.mono (by have:=HSZ.out;omega)));replace H5:=hid ((hb.block _ (lt_of_block H5.out)).trans H5.out);replace H6:=hid ((hb.block _ (lt_of_block H6.out)).trans H6.out);have HN1:=hid (lt_of_block H6.out);have h3:=B8 w1 (Obj.cells #[i8 (er:Int),i8 (a:Int)] 28);have hbw:=(N' w1.heap.size w1).alloc (C' _) (Obj.cells #[i8 (er:Int),i8 (a:Int)] 28);replace H5:=hid ((hbw.block _ (lt_of_block H5.out)).trans H5.out);replace H6:=hid ((hbw.block _ (lt_of_block H6.out)).trans H6.out);replace HBB:=hid (hbb.out.trans (hbw.mono hbb.out.size));clear hbb hbw hb HA;generalize w1.alloc (Obj.cells #[i8 (er:Int),i8 (a:Int)] 28)=w2 at *;obtain⟨e0,e1,_⟩:=tA h3;obtain⟨a0,a1,a2,a3,a4,b0,b1,b2,b3,b4⟩:=pX0 H5.out;obtain⟨c0,c1,f0,f1⟩:=tA H6.out;go_upto_region 5 with fail;have HNN:=hid (show w.heap.size≠w1.heap.size by have:=HN1.out;omega);have HNM:=hid (show w.heap.size+1≠w1.heap.size by have:=HN1.out;omega);clear h3;refine Ce (S:=fun w'=>w'.cell? (y8 w1.heap.size 0)=some (i8 (er:Int))/\w'.cell? (y8 w1.heap.size 1)=some (i8 (a:Int))) Cw ?_ (fun hHeld=>?_)
  ·exact⟨e0,e1⟩
  refine tn_ 0 ?_;refine tn_ 1 ?_;refine tn_ 2 ?_;refine Cb (rs:=[3]) Cw Cu (Cc (o:=?_) ?_ (fun Kk hKk=>?_) Cd)
  rotate_left
  ·exact Cf
  go_simp;go_wp2_with fail;refine hKk.out _ _ ?_ (fun hHeld3=>?_)
  ·exact⟨drc (LX1 e0 HNN.out),drc (LX1 e1 HNN.out)⟩
  clear hKk Kk
  try simp only [Act.put,Q',Z',Aa]
  refine Cb (rs:=[4]) Cw Cu (Cc (o:=?_) ?_ (fun Kk hKk=>?_) Cd)
  rotate_left
  ·exact Cf
  go_simp;go_wp2_with fail;refine hKk.out _ _ ?_ (fun hHeld4=>?_)
  ·exact⟨drc (xX0 (LX1 e0 HNN.out) HNM.out),drc (xX0 (LX1 e1 HNN.out) HNM.out)⟩
  clear hKk Kk
  try simp only [Act.put,Q',Z',Aa]
  refine wpAnyH_done Cw ?_ _;go_wp2_with fail;have HF:=hid (qX1 (v0:=(.int .u8 0)) (v1:=(i8 0)) (v2:=(i8 0)) (v3:=(i8 0)) (v4:=(.slice none 0 0)) (e:=(i8 (er:Int))) (a:=(i8 (a:Int))) H5.out H6.out HBB.out);obtain⟨q0,q1,q2,q3,q4,_⟩:=pX0 HF.out.1;obtain⟨q5,q6,_⟩:=tA HF.out.2.1;generalize ((((((w2.setCell (y8 w.heap.size 0) (.int .u8 0)).setCell (y8 w.heap.size 1) (i8 0)).setCell (y8 w.heap.size 2) (i8 0)).setCell (y8 w.heap.size 3) (i8 0)).setCell (y8 w.heap.size 4) (.slice none 0 0)).setCell (y8 (w.heap.size+1) 0) (i8 (er:Int))).setCell (y8 (w.heap.size+1) 1) (i8 (a:Int))=w9 at *;refine Ca (v:=.tuple #[.slice none 0 0,zTv,qA er a]) ?_ rfl ⟨rfl,HF.out.2.2.drew⟩;simp [results,Tryz.results22,go_sem,q0,q1,q2,q3,q4,q5,q6,qA,zTv]
 | ok l p m =>
  have hN2:kE s=.ok l p:=by unfold kE;rw [hN]
  have hfit:=gM.fit s l p hN2;obtain⟨t,st,hrs,hrt⟩:=OX9 hg hN2 (fun x hx=>(hfit.within x hx).1);obtain⟨G,hGG⟩:∃ G,G=goal:=⟨_,rfl⟩;obtain⟨RR,hRR⟩:∃ RR,RR=rtR ⟨s,l,p⟩ G t st:=⟨_,rfl⟩;rw [hrt,show rtR ⟨s,l,p⟩ goal t st=RR by rw [hRR,hGG]];have HRR:=hid hRR;clear hRR;have HGG:=hid hGG;clear hGG;rw [hN] at HA;unfold fJ qA at HA;have HFT:=hid hfit;have hgg:goal=1∨goal=2∨goal=3∨goal=4:=by
   have h1:1<=goal.toNat:=by have:=fun h=>hg (.inl (UInt8.lt_iff_toNat_lt.2 h));simp at this;omega
   have h2:goal.toNat<=4:=by have:=fun h=>hg (.inr (UInt8.lt_iff_toNat_lt.2 h));simp at this;omega
   have e:∀ n:Nat,n < 256->goal.toNat=n->goal=UInt8.ofNat n:=fun n h e=>UInt8.toNat.inj Jn
   have:goal.toNat=1∨goal.toNat=2∨goal.toNat=3∨goal.toNat=4:=Cs
   rcases this with h|h|h|h
   ·exact .inl (e 1 Cs h)
   ·exact .inr (.inl (e 2 Cs h))
   ·exact .inr (.inr (.inl (e 3 Cs h)))
   ·exact .inr (.inr (.inr (e 4 Cs h)))
  have HG4:=hid hgg;clear hN hN2 hfit hrt hg hgg
  go_in
  go_upto_region 1 with fail;rw [<- hwA];clear hwA;go_upto_region 4 with (go_at_call 28;refine (HA.out wA).mono ?_;rintro e w1 ⟨tv0,pv,rfl,hrow,hprow,hb⟩;obtain⟨ta,tc,rfl⟩:=bE hrow;obtain⟨pa,pc,rfl⟩:=bE hprow);have hbb:=hid (HBB.out.trans (hb.mono (by have:=HSZ.out;omega)));replace H5:=hid ((hb.block _ (lt_of_block H5.out)).trans H5.out);replace H6:=hid ((hb.block _ (lt_of_block H6.out)).trans H6.out);have HN1:=hid (lt_of_block H6.out);have h3:=B8 w1 (Obj.cells #[i8 0,i8 0] 28);have hbw:=(N' w1.heap.size w1).alloc (C' _) (Obj.cells #[i8 0,i8 0] 28);have hs2:(w1.alloc (Obj.cells #[i8 0,i8 0] 28)).heap.size=w1.heap.size+1:=Cu
  replace H5:=hid ((hbw.block _ (lt_of_block H5.out)).trans H5.out);replace H6:=hid ((hbw.block _ (lt_of_block H6.out)).trans H6.out);replace HBB:=hid (hbb.out.trans (hbw.mono hbb.out.size));have HR1:=hid (LD (hrow) hbw);have HR2:=hid (LD (hprow) hbw);clear hbb hbw hb HA hrow hprow;generalize w1.alloc (Obj.cells #[i8 0,i8 0] 28)=w2 at *;have e0:=(tA h3).1;have e1:=(tA h3).2.1;have HS2:=hid hs2;clear h3 hs2
  go_upto_if 42 with fail
  clear e0 e1;obtain⟨E,rfl,rfl,rfl,rfl,rfl,rfl,rfl⟩:∃ E:Ev,E.s=s/\E.l=l/\E.pair=p/\E.ta=ta/\E.tcap=tc/\E.pa=pa/\E.pcap=pc:=⟨{ s:=s,l:=l,pair:=p,ta:=ta,tcap:=tc,pa:=pa,pcap:=pc,zb:=0,zo:=none },rfl,rfl,rfl,rfl,rfl,rfl,rfl⟩;have hee:({ s:=E.s,l:=E.l,pair:=E.pair }:Env)=E.toEnv:=rfl;rw [hee] at hrs;clear hee;obtain⟨wB,hwB⟩:∃ wB,wB=w2.alloc (.cells #[.string ⟨E.s.toArray⟩,.slice E.ta E.l.length E.tcap,.slice E.pa E.pair.length E.pcap,i8 0,i8 (-1)] 75):=⟨_,rfl⟩;have hbB:=(N' w2.heap.size w2).alloc (C' _) (Obj.cells #[.string ⟨E.s.toArray⟩,.slice E.ta E.l.length E.tcap,.slice E.pa E.pair.length E.pcap,i8 0,i8 (-1)] 75);have hkB:=B8 w2 (Obj.cells #[.string ⟨E.s.toArray⟩,.slice E.ta E.l.length E.tcap,.slice E.pa E.pair.length E.pcap,i8 0,i8 (-1)] 75);have hsB:wB.heap.size=w2.heap.size+1:=by rw [hwB];simp
  rw [<- hwB] at hbB hkB ⊢;obtain⟨wC,hwC⟩:∃ wC,wC=wB.alloc (.cells #[.int .u8 0,i8 0,i8 0,i8 0,.slice none 0 0] 60):=⟨_,rfl⟩;have hbC:=(N' wB.heap.size wB).alloc (C' _) (Obj.cells #[.int .u8 0,i8 0,i8 0,i8 0,.slice none 0 0] 60);have hkC:=B8 wB (Obj.cells #[.int .u8 0,i8 0,i8 0,i8 0,.slice none 0 0] 60);rw [<- hwC] at hbC hkC ⊢;have hsC:wC.heap.size=w2.heap.size+2:=by rw [hwC];simp [hsB]
  rw [hsB] at hkC hbC;have hcC:=(hbC.block _ (by rw [hsB] at *;omega)).trans hkB;have hBD:Below w2.heap.size w2 wC:=hbB.trans (hbC.mono Cs);obtain⟨c,hc⟩:∃ c,c=w2.heap.size:=⟨_,rfl⟩;rw [<- hc] at hkC hcC hsC ⊢;have HPD:=hid (show Pd E c ⟨0,none⟩ wC from lX9 (zb:=E.zb) (zo:=E.zo) HR1.out HR2.out HFT.out (Fr.below (X:=[]) hBD) (by rw [hc];exact C' _) hcC);have HBX:=hid hkC;have HSC:=hid hsC;have HSS:=hid (show w.heap.size+1 < c/\c < wC.heap.size by have:=HN1.out;have:=HS2.out;omega);replace H5:=hid ((hBD.block _ (lt_of_block H5.out)).trans H5.out);replace H6:=hid ((hBD.block _ (lt_of_block H6.out)).trans H6.out);replace HBB:=hid (HBB.out.trans (hBD.mono HBB.out.size));have HTL:=hid (show ∀ b,Value.ownBlock (.slice E.ta E.l.length E.tcap)=some b->b < c from fun b hb=>by rw [hc];exact (HR1.out.lt b hb).2);replace HR1:=hid (LD HR1.out hBD);have HRS:=hid hrs;clear hbB hkB hsB hwB hbC hkC hsC hwC hcC hBD hc hrs;rcases HG4.out with rfl|rfl|rfl|rfl
  all_goals
   first
   | have HD:=hid ((pX3 E (bX1 E.toEnv) Er).t .typ c ⟨0,none⟩ wC (t,st) (fun _=>False) none 0 HPD.out (fun _ h=>h.elim) (.inl rfl) HRS.out)
   | have HD:=hid ((pX3 E (bX1 E.toEnv) Er).t (.expr false) c ⟨0,none⟩ wC (t,st) (fun _=>False) none 0 HPD.out (fun _ h=>h.elim) (.inl rfl) HRS.out)
   | have HD:=hid ((pX3 E (bX1 E.toEnv) Er).t .stmts c ⟨0,none⟩ wC (t,st) (fun _=>False) none 0 HPD.out (fun _ h=>h.elim) (.inl rfl) HRS.out)
   | have HD:=hid ((pX3 E (bX1 E.toEnv) Er).t .file c ⟨0,none⟩ wC (t,st) (fun _=>False) none 0 HPD.out (fun _ h=>h.elim) (.inl rfl) HRS.out)
   go_wp2_with fail;refine HD.out.mono ?_;rintro e w4 ⟨ka,cap,rfl,hpd,hk,hf⟩;have hw4:=hf.size;have hbx:=hf.at_ Cu HBX.out;obtain⟨a0,a1,a2,a3,a4,b0,b1,b2,b3,b4⟩:=pX0 hbx;have HT4:=hid (BX9 (ka:=ka) (cap:=cap) (t:=t) (st:=st) HSS.out HSC.out HBX.out H5.out H6.out HBB.out HR1.out (Nat.le_of_eq HSZ.out.symm) HTL.out hpd hk hf);clear hpd hk hf hbx HD;simp only [tv];go_upto_region 16 with fail;clear a0 a1 a2 a3 a4 b0 b1 b2 b3 b4 hw4;generalize (((((w4.setCell (y8 (c+1) 0) (.int .u8 (t.kind.toNat:Int))).setCell (y8 (c+1) 1) (i8 t.word)).setCell (y8 (c+1) 2) (i8 (t.fr:Int))).setCell (y8 (c+1) 3) (i8 (t.to:Int))).setCell (y8 (c+1) 4) (.slice ka t.kids.length cap))=wx at *;have hat:=HT4.out.pd.cells.2.2.2.1;have hwl:=Ck.wrap_id ((E.l.length:Int) - 1) Cs (by have:=HFT.out.small;omega);have HLL:=hid HFT.out.small
   go_cut [69] from 13 (fun v69 wy=>∃ b,v69=.bool b/\(b=true->st.n+1=E.l.length)/\QH E.toEnv G st=(if ends E.toEnv (if b=true then st.up else st)=true then (if b=true then st.up else st) else vX0 (if b=true then st.up else st))/\TX0 E c (c+1) w t st wy)
   case first =>
    cases hn:nx E.toEnv [59] st with
    | true =>
     by_cases hl:st.n+1=E.l.length
     ·have d:((st.n:Int)==(E.l.length:Int) - 1)=true:=by rw [Bh];omega
      go_wp2_with (go_at_call 33;refine (dX0 HT4.out.pd 59 []).mono ?_;rintro e w5 ⟨rfl,hb5⟩;rw [hn];have HT5:=hid (HT4.out.below hb5);have hat5:=HT5.out.pd.cells.2.2.2.1;clear hb5)
      go_meet
      case rel =>
       first
       | exact⟨true,rfl,fun _=>hl,by rw [HGG.out];exact gX9 ⟨Ct,hn,hl⟩,HT5.out⟩
       | exact⟨false,rfl,Hx,by rw [HGG.out];exact oX3 (fun h=>absurd h.1 Ct),HT4.out⟩
     ·have d:((st.n:Int)==(E.l.length:Int) - 1)=false:=by rw [Bi];omega
      go_wp2_with (go_at_call 33;refine (dX0 HT4.out.pd 59 []).mono ?_;rintro e w5 ⟨rfl,hb5⟩;rw [hn];have HT5:=hid (HT4.out.below hb5);have hat5:=HT5.out.pd.cells.2.2.2.1;clear hb5)
      go_meet
      case rel =>
       first
       | exact⟨false,rfl,Hx,oX3 (fun h=>hl h.2.2),HT5.out⟩
       | exact⟨false,rfl,Hx,oX3 (fun h=>hl h.2.2),HT4.out⟩
    | false =>
     go_wp2_with (go_at_call 33;refine (dX0 HT4.out.pd 59 []).mono ?_;rintro e w5 ⟨rfl,hb5⟩;rw [hn];have HT5:=hid (HT4.out.below hb5);clear hb5)
     go_meet
     case rel =>
      first
      | exact⟨false,rfl,Hx,oX3 (fun h=>by rw [hn] at h;cases h.2.1),HT5.out⟩
      | exact⟨false,rfl,Hx,oX3 (fun h=>by rw [hn] at h;cases h.2.1),HT4.out⟩
   case rest =>
    clear hat hwl HT4;obtain⟨b,rfl,hbl,hR,HT⟩:=hcut;have hat:=HT.pd.cells.2.2.2.1;have hfz:=HT.pd.free 3;obtain⟨s2,hs2⟩:∃ s2,s2=(if b=true then st.up else st):=⟨_,rfl⟩;rw [<- hs2] at hR;have HR:=hid hR;replace HT:=hid HT;have HS:=hid hs2;have HBL:=hid hbl;clear hR hs2 hbl
    go_upto_if 69 with fail
    go_cut [] from 13 (fun wy=>TX0 E c (c+1) w t s2 wy)
    case first =>
     cases b with
     | true =>
      have hwn:=Ck.wrap_id ((st.n:Int)+1) Cs (by have:=HLL.out;have:=HT.out.pd.at_;omega);go_wp2_with fail
      go_meet
      case rel=>rw [HS.out];exact HT.out.moved (HBL.out (by first|exact trivial|rfl))
     | false =>
      go_wp2_with fail
      go_meet
      case rel=>rw [HS.out];exact HT.out
    case rest =>
     clear hat hfz HT HS HBL;have HT:=hid hcut;obtain⟨e2,he2⟩:∃ e2,e2=ends E.toEnv s2:=⟨_,rfl⟩;rw [<- he2] at HR;have HE:=hid he2;clear hcut he2
     go_upto_if 79 with (go_at_call 34;refine (hX3 HT.out.pd).mono ?_;rintro e w5 ⟨rfl,hb5⟩;rw [<- HE.out];replace HT:=hid (HT.out.below hb5);clear hb5)
     obtain⟨s3,hs3⟩:∃ s3,s3=QH E.toEnv G st:=⟨_,rfl⟩;rw [<- hs3] at HR;have HS3:=hid hs3;clear hs3
     go_cut [] from 13 (fun wy=>TX0 E c (c+1) w t s3 wy)
     case first =>
      cases e2 with
      | true =>
       go_wp2_with fail
       go_meet
       case rel=>rw [HR.out];exact HT.out
      | false =>
       go_wp2_with (go_at_call 35;refine (VH HT.out.pd).mono ?_;rintro e w6 ⟨rfl,hp6,hf6⟩;have HT6:=hid (HT.out.failed hp6 hf6);clear hp6 hf6)
       go_meet
       case rel=>rw [HR.out];exact HT6.out
     case rest =>
      clear HT HR HE;replace hcut:=hid hcut;have HT:=hcut;clear hcut;have HRX:=hid (show RR=(match s3.b with|none=>qK.ok E.l t|some k=>.bad 7 (MZ1 E.toEnv k)) from by rw [HRR.out];unfold rtR;rw [HS3.out]);clear HS3 HRR;have H5:=hid HT.out.f5;have H6:=hid HT.out.f6;have HBB:=hid HT.out.bel;have hbd:=HT.out.pd.cells.2.2.2.2;obtain⟨a0,a1,a2,a3,a4,b0,b1,b2,b3,b4⟩:=pX0 H5.out;obtain⟨c0,c1,f0,f1⟩:=tA H6.out;cases hb3:s3.b with
      | none =>
       rw [hb3] at hbd HRX;simp only [bv] at hbd
       dsimp only at HRX
       obtain⟨ka,cap,hbx,hkk⟩:=HT.out.box;obtain⟨t0,t1,t2,t3,t4,_⟩:=pX0 (w:=wc) (p:=c+1) (v0:=.int .u8 (t.kind.toNat:Int)) (v1:=i8 t.word) (v2:=i8 (t.fr:Int)) (v3:=i8 (t.to:Int)) (v4:=.slice ka t.kids.length cap) hbx;obtain⟨l1,l2⟩:=HT.out.lt;have HNA:=hid (show w.heap.size≠c+1/\w.heap.size+1≠c+1 by omega);have HKK:=hid hkk;clear hbx hkk hb3 l1 l2;go_upto_region 24 with fail;refine Ce (S:=fun w'=>w'.cell? (y8 (c+1) 0)=some (.int .u8 (t.kind.toNat:Int))/\w'.cell? (y8 (c+1) 1)=some (i8 t.word)/\w'.cell? (y8 (c+1) 2)=some (i8 (t.fr:Int))/\w'.cell? (y8 (c+1) 3)=some (i8 (t.to:Int))/\w'.cell? (y8 (c+1) 4)=some (.slice ka t.kids.length cap)) Cw ?_ (fun hHeld=>?_)
       ·exact⟨t0,t1,t2,t3,t4⟩
       refine tn_ 0 ?_;refine tn_ 1 ?_;refine tn_ 2 ?_;refine tn_ 3 ?_;refine Cb (rs:=[4]) Cw Cu (Cc (o:=?_) ?_ (fun Kk hKk=>?_) Cd)
       rotate_left
       ·exact Cf
       go_simp;go_wp2_with fail;refine hKk.out _ _ ?_ (fun hHeld4=>?_)
       ·exact⟨drc (LX1 t0 HNA.out.1),drc (LX1 t1 HNA.out.1),drc (LX1 t2 HNA.out.1),drc (LX1 t3 HNA.out.1),drc (LX1 t4 HNA.out.1)⟩
       clear hKk Kk
       try simp only [Act.put,Q',Z',Aa]
       refine Cb (rs:=[5]) Cw Cu (Cc (o:=?_) ?_ (fun Kk hKk=>?_) Cd)
       rotate_left
       ·exact Cf
       go_simp;go_wp2_with fail;refine hKk.out _ _ ?_ (fun hHeld5=>?_)
       ·exact⟨drc (xX0 (LX1 t0 HNA.out.1) HNA.out.2),drc (xX0 (LX1 t1 HNA.out.1) HNA.out.2),drc (xX0 (LX1 t2 HNA.out.1) HNA.out.2),drc (xX0 (LX1 t3 HNA.out.1) HNA.out.2),drc (xX0 (LX1 t4 HNA.out.1) HNA.out.2)⟩
       clear hKk Kk
       try simp only [Act.put,Q',Z',Aa]
       refine wpAnyH_done Cw ?_ _
       repeat go_step
       rw [HRX.out];have HK9:=hid (rX7 (v0:=.int .u8 (t.kind.toNat:Int)) (v1:=i8 t.word) (v2:=i8 (t.fr:Int)) (v3:=i8 (t.to:Int)) (v4:=.slice ka t.kids.length cap) (e:=i8 0) (a:=i8 0) HT.out HKK.out);have HF:=hid (qX1 (v0:=(.int .u8 (t.kind.toNat:Int))) (v1:=(i8 t.word)) (v2:=(i8 (t.fr:Int))) (v3:=(i8 (t.to:Int))) (v4:=(.slice ka t.kids.length cap)) (e:=(i8 0)) (a:=(i8 0)) H5.out H6.out HBB.out);obtain⟨q0,q1,q2,q3,q4,_⟩:=pX0 HF.out.1;obtain⟨q5,q6,_⟩:=tA HF.out.2.1;generalize ((((((wc.setCell (y8 w.heap.size 0) (.int .u8 (t.kind.toNat:Int))).setCell (y8 w.heap.size 1) (i8 t.word)).setCell (y8 w.heap.size 2) (i8 (t.fr:Int))).setCell (y8 w.heap.size 3) (i8 (t.to:Int))).setCell (y8 w.heap.size 4) (.slice ka t.kids.length cap)).setCell (y8 (w.heap.size+1) 0) (i8 0)).setCell (y8 (w.heap.size+1) 1) (i8 0)=w9 at *;refine Ca (v:=.tuple #[.slice E.ta E.l.length E.tcap,tv t ka cap,qA 0 0]) ?_ rfl ⟨_,ka,cap,rfl,HK9.out.1.drew,HK9.out.2.kept (fun _ _=>rfl) (fun _ h=>h),HF.out.2.2.drew⟩;simp [results,Tryz.results22,go_sem,q0,q1,q2,q3,q4,q5,q6,qA,zTv]
      | some k =>
       rw [hb3] at hbd HRX;simp only [bv] at hbd
       dsimp only at HRX
       have k0:(0:Int)<=(k:Int):=Cs
       by_cases hk:E.l.length<=k
       ·have k1:(E.l.length:Int)<=(k:Int):=by omega
        have HFA:=hid (NZ1 hk);rw [HFA.out] at HRX;clear hb3 hk
        repeat go_step
        rw [HRX.out];have HF:=hid (qX1 (v0:=(.int .u8 0)) (v1:=(i8 0)) (v2:=(i8 0)) (v3:=(i8 0)) (v4:=(.slice none 0 0)) (e:=(i8 7)) (a:=(i8 (E.s.length:Int))) H5.out H6.out HBB.out);obtain⟨q0,q1,q2,q3,q4,_⟩:=pX0 HF.out.1;obtain⟨q5,q6,_⟩:=tA HF.out.2.1;generalize ((((((wc.setCell (y8 w.heap.size 0) (.int .u8 0)).setCell (y8 w.heap.size 1) (i8 0)).setCell (y8 w.heap.size 2) (i8 0)).setCell (y8 w.heap.size 3) (i8 0)).setCell (y8 w.heap.size 4) (.slice none 0 0)).setCell (y8 (w.heap.size+1) 0) (i8 7)).setCell (y8 (w.heap.size+1) 1) (i8 (E.s.length:Int))=w9 at *;refine Ca (v:=.tuple #[.slice none 0 0,zTv,qA 7 E.s.length]) ?_ rfl ⟨rfl,HF.out.2.2⟩;simp [results,Tryz.results22,go_sem,q0,q1,q2,q3,q4,q5,q6,qA,zTv]
       ·have k1:¬ (E.l.length:Int)<=(k:Int):=by omega
        have k2:(k:Int) < (E.l.length:Int):=Cs
        obtain⟨u,hu⟩:∃ u,E.l[k]?=some u:=⟨_,O' Cs⟩;have hfa:MZ1 E.toEnv k=u.fr:=OZ1 hu;rw [hfa] at HRX;obtain⟨b,o,hta,hbc,_,z1,_⟩:=HT.out.pd.lie.toks k u hu;have hbg:=(HT.out.toks.lt b (by rw [hta];rfl)).1;obtain⟨l1,l2⟩:=HT.out.lt;have HNA:=hid (show w.heap.size≠b/\w.heap.size+1≠b/\w.heap.size≠c/\w.heap.size+1≠c by omega);rw [hta];clear hb3 hk hu hfa hbc hbg l1 l2;go_upto_region 23 with fail;refine Ce (S:=fun w'=>w'.cell? (y8 c 4)=some (i8 (k:Int))/\w'.cell? ⟨b,o+k*3+1,none⟩=some (i8 (u.fr:Int))) Cw ?_ (fun hHeld=>?_)
        ·exact⟨hbd,z1⟩
        refine tn_ 0 ?_;refine tn_ 1 ?_;refine tn_ 2 ?_;refine tn_ 3 ?_;refine tn_ 4 ?_;refine tn_ 5 ?_;refine tn_ 6 ?_;refine tn_ 7 ?_;refine tn_ 8 ?_;refine tn_ 9 ?_;refine tn_ 10 ?_;refine Cb (rs:=[11]) Cw Cu (Cc (o:=?_) ?_ (fun Kk hKk=>?_) Cd)
        rotate_left
        ·exact Cf
        go_simp;go_wp2_with fail;refine hKk.out _ _ ?_ (fun hHeld11=>?_)
        ·exact⟨drc (LX1 hbd HNA.out.2.2.1),drc (LX1 z1 HNA.out.1)⟩
        clear hKk Kk
        try simp only [Act.put,Q',Z',Aa]
        refine Cb (rs:=[12]) Cw Cu (Cc (o:=?_) ?_ (fun Kk hKk=>?_) Cd)
        rotate_left
        ·exact Cf
        go_simp;go_wp2_with fail;refine hKk.out _ _ ?_ (fun hHeld12=>?_)
        ·exact⟨drc (xX0 (LX1 hbd HNA.out.2.2.1) HNA.out.2.2.2),drc (xX0 (LX1 z1 HNA.out.1) HNA.out.2.1)⟩
        clear hKk Kk
        try simp only [Act.put,Q',Z',Aa]
        refine wpAnyH_done Cw ?_ _
        repeat go_step
        rw [HRX.out];have HF:=hid (qX1 (v0:=(.int .u8 0)) (v1:=(i8 0)) (v2:=(i8 0)) (v3:=(i8 0)) (v4:=(.slice none 0 0)) (e:=(i8 7)) (a:=(i8 (u.fr:Int))) H5.out H6.out HBB.out);obtain⟨q0,q1,q2,q3,q4,_⟩:=pX0 HF.out.1;obtain⟨q5,q6,_⟩:=tA HF.out.2.1;generalize ((((((wc.setCell (y8 w.heap.size 0) (.int .u8 0)).setCell (y8 w.heap.size 1) (i8 0)).setCell (y8 w.heap.size 2) (i8 0)).setCell (y8 w.heap.size 3) (i8 0)).setCell (y8 w.heap.size 4) (.slice none 0 0)).setCell (y8 (w.heap.size+1) 0) (i8 7)).setCell (y8 (w.heap.size+1) 1) (i8 (u.fr:Int))=w9 at *;refine Ca (v:=.tuple #[.slice none 0 0,zTv,qA 7 u.fr]) ?_ rfl ⟨rfl,HF.out.2.2.drew⟩;simp [results,Tryz.results22,go_sem,q0,q1,q2,q3,q4,q5,q6,qA,zTv]
end Rf
end
