import Derived.Test.YtfmpphplbdojbaaGreatDoorQBJ
import Derived.Test.YtfmpphplbdojbaaGreatDoorQAU
import Derived.Test.YtfmpphplbdojbaaGreatDoorQBI
namespace Go.Proofs.YtfmpphplbdojbaaGreatDoor
open Lib(hid)
set_option linter.all false
set_option maxHeartbeats 40000000
set_option maxRecDepth 100000
section
open Go.RowKit
variable {E:Ev}{c n k:Nat}{g:Bool}{w w':World}
inductive qK where
 | bad (err at':Nat):qK
 | ok (l:List Tk) (t:Tr):qK
def tD (N:List UInt8→uH) (goal:UInt8) (s:List UInt8):qK :=
 if goal < 1∨4 < goal then .bad 1 0
 else match N s with
  | .bad e a=>.bad e a
  | .ok l p=>match FD ⟨s,l,p⟩ goal with
   | .ok t _=>.ok l t
   | .bad k=>.bad 7 (FB ⟨s,l,p⟩ k)
   | .out=>.bad 0 0
def dX (r:qK) (w:World) (e:Ending) (w':World):Prop :=
 match r with
 | .bad err a=>∃ va n c,e=.returned (.tuple #[.slice va n c,.pointer none,qA err a])∧Below w.heap.size w w'
 | .ok l t=>∃ tv q,e=.returned (.tuple #[tv,.pointer (some ⟨q,0,none⟩),qA 0 0])∧w'.ownsRow w.heap.size 63 3 tv l.length (BF l)∧EA w' w.heap.size w'.heap.size q t∧Below w.heap.size w w'
theorem Fr.below_of {c:Nat}{w0 w w':World} (h:Fr [c] w w') (hb:Below w0.heap.size w0 w) (hc:w0.heap.size≤c):Below w0.heap.size w0 w' :=
 hb.trans ⟨h.os,h.tape,h.output,h.size,fun k hk=>h.block k (by have:=hb.size;omega) (by simp;omega)⟩
theorem CD {lo sz n:Nat}{T:TypeId}{v:Value}{xs:List Value}{X:List Nat}{w w':World} (h:w.ownsRow lo T sz v n xs) (hf:Fr X w w') (hX:∀ b∈X,v.ownBlock≠some b):w'.ownsRow lo T sz v n xs:=by
 refine⟨h.1,?_⟩;rcases h.2 with h2|⟨g,cap,cur,h1,h2,h3,h4⟩
 ·exact .inl h2
 ·exact .inr ⟨g,cap,cur,h1,h2,hf.at_ (fun m=>hX g m (by rw [h1];rfl)) h3,h4⟩
theorem YP {lo lo' sz n:Nat}{T:TypeId}{v:Value}{xs:List Value}{w:World} (h:w.ownsRow lo T sz v n xs) (hl:lo'≤lo):w.ownsRow lo' T sz v n xs :=
 ⟨h.1,h.2.imp id (fun⟨g,cap,cur,h1,h2,h3⟩=>⟨g,cap,cur,h1,Nat.le_trans hl h2,h3⟩)⟩
theorem gY {s:List UInt8}{l:List Tk}{p:List Int}{w1 W:World}{ta pa:Option Addr}{tc pc lo c:Nat} (ht:w1.ownsRow lo 63 3 (.slice ta l.length tc) l.length (BF l)) (hp:w1.ownsRow lo 3 1 (.slice pa p.length pc) p.length (nG p)) (hf:jU s l p)
  (hF:Fr [] w1 W) (hc:w1.heap.size≤c) (hb:W.heap[c]?=some (.cells #[.string ⟨s.toArray⟩,.slice ta l.length tc,.slice pa p.length pc,.int .i64 0,.bool false] 57 (0,0))) :
  Rd { s:=s,l:=l,pair:=p,ta:=ta,tcap:=tc,pa:=pa,pcap:=pc,zb:=0,zo:=none } c 0 false W:=by
 refine⟨hb,⟨fun i t h=>?_,hf.fits,by have:=hf.small;show l.length≤_;omega⟩,⟨fun i x h=>?_,hf.same,hf.within⟩,Nat.zero_le _,fun o h=>by cases h⟩
 ·obtain⟨h0,h1,h2⟩:=lH h;obtain⟨b,e,_,hb2,c0⟩:=GA ht h0;obtain⟨b',e',_,_,c1⟩:=GA ht h1;obtain⟨b'',e'',_,_,c2⟩:=GA ht h2;rw [e] at e' e'';cases e';cases e'';exact⟨b,0,e,by omega,by simpa using hF.cell (by simp) c0,by simpa using hF.cell (by simp) c1,by simpa using hF.cell (by simp) c2⟩
 ·have hx:(nG p)[i]?=some (.int .i64 x):=by have h':p[i]?=some x:=h;simp [nG,h']
  obtain⟨b,e,_,hb2,c0⟩:=GA hp hx;exact⟨b,0,e,by omega,by simpa using hF.cell (by simp) c0⟩
theorem xT {N:List UInt8→uH} (HN:LJ N) (goal:UInt8) (s:List UInt8) (w:World) (hw:NC w) :
  Calls Tryz.prog 27 #[.int .u8 (goal.toNat:Int),.string ⟨s.toArray⟩] w (dX (tD N goal s) w):=by
 have HNN:=hid HN;clear HN;have h6:=heap_alloc_new w (.cells #[.int .i64 0,.int .i64 0] 35);have hB:=(Below.refl w.heap.size w).alloc (Nat.le_refl _) (Obj.cells #[.int .i64 0,.int .i64 0] 35);have HW:=hid (hw.below hB);clear hw;by_cases hg:goal < 1∨4 < goal
 ·have hr:tD N goal s=.bad 1 0:=by unfold tD;rw [if_pos hg]
  rw [hr];have hg2:((goal.toNat:Nat):Int) < 1∨4 < ((goal.toNat:Nat):Int):=by
   rcases hg with h|h
   ·left;have:=UInt8.lt_iff_toNat_lt.1 h;simp at this;omega
   ·right;have:=UInt8.lt_iff_toNat_lt.1 h;simp at this;omega
  clear hg hr h6 hB HNN;go_enter Tryz.func27,Tryz.ntmps27;go_wp2_with fail
  all_goals go_returns
  all_goals exact⟨_,_,_,rfl,(Below.refl _ _).alloc (Nat.le_refl _) _⟩
 ·have g1:decide (((goal.toNat:Nat):Int) < 1)=false:=by
   have:=fun h=>hg (.inl (UInt8.lt_iff_toNat_lt.2 h));simp at this;simp;omega
  have g2:decide (4 < ((goal.toNat:Nat):Int))=false:=by
   have:=fun h=>hg (.inr (UInt8.lt_iff_toNat_lt.2 h));simp at this;simp;omega
  have hrd:tD N goal s=match N s with
   | .bad e a=>.bad e a
   | .ok l p=>match FD ⟨s,l,p⟩ goal with
    | .ok t _=>.ok l t
    | .bad k=>.bad 7 (FB ⟨s,l,p⟩ k)
    | .out=>.bad 0 0:=by unfold tD;rw [if_neg hg]
  clear hg;have HRD:=hid hrd;clear hrd;go_enter Tryz.func27,Tryz.ntmps27;go_wp2_with fail;generalize w.alloc (.cells #[.int .i64 0,.int .i64 0] 35)=wA at *;refine (HNN.out.calls s wA HW.out).mono ?_;intro e w1 hA;cases hN:N s with
  | bad er a =>
   rw [hN] at hA;obtain⟨rfl,hb⟩:=hA;have hne:((er:Nat):Int)≠0:=by have:=HNN.out.bad s er a hN;omega
   have hne2:(((er:Nat):Int)==0)=false:=by simpa using hne
   have k6:=(hb.block _ (Array.getElem?_eq_some_iff.1 h6).1).trans h6;have hl6:w.heap.size < w1.heap.size:=(Array.getElem?_eq_some_iff.1 k6).1;have k7:(w1.alloc (.cells #[.int .i64 (er:Int),.int .i64 (a:Int)] 35)).heap[w.heap.size]?=some (.cells #[.int .i64 0,.int .i64 0] 35 (0,0)):=(((Below.refl w1.heap.size w1).alloc (Nat.le_refl _) _).block _ hl6).trans k6;have k8:=heap_alloc_new w1 (.cells #[.int .i64 (er:Int),.int .i64 (a:Int)] 35);have HBL:=hid (And.intro (hB.trans (hb.mono (by have:=hB.size;omega))) hl6);have HB2:=(HBL.out.1.alloc (by omega) (Obj.cells #[.int .i64 (er:Int),.int .i64 (a:Int)] 35));have HS:=hid (show w.heap.size≠w1.heap.size by omega);unfold qA;go_wp2_with fail;generalize w1.alloc (.cells #[.int .i64 (er:Int),.int .i64 (a:Int)] 35)=w2 at *;have c1:w2.cell? ⟨w.heap.size,0,none⟩=some (.int .i64 0):=by simp [World.cell?,k7]
   have c2:w2.cell? ⟨w.heap.size,1,none⟩=some (.int .i64 0):=by simp [World.cell?,k7]
   have c3:w2.cell? ⟨w1.heap.size,0,none⟩=some (.int .i64 (er:Int)):=by simp [World.cell?,k8]
   have c4:w2.cell? ⟨w1.heap.size,1,none⟩=some (.int .i64 (a:Int)):=by simp [World.cell?,k8]
   have f1:w2.frozen? ⟨w.heap.size,0,none⟩=false:=by simp [World.frozen?,k7]
   have f2:w2.frozen? ⟨w.heap.size,1,none⟩=false:=by simp [World.frozen?,k7]
   have s1:=heap_setCell_same w2 w.heap.size 0 _ _ (.int .i64 (er:Int)) k7;have s2:=heap_setCell_same (w2.setCell ⟨w.heap.size,0,none⟩ (.int .i64 (er:Int))) w.heap.size 1 _ _ (.int .i64 (a:Int)) s1;simp only [List.setIfInBounds_toArray,List.set_cons_zero,List.set_cons_succ] at s2;have HB3:=hid ((HB2.setCell (p:=⟨w.heap.size,0,none⟩) (Nat.le_refl _) (.int .i64 (er:Int))).setCell (p:=⟨w.heap.size,1,none⟩) (Nat.le_refl _) (.int .i64 (a:Int)));clear s1 HB2 h6 hB hb k6 k7 k8;go_region
   all_goals (go_wp2_with fail)
   all_goals (
    generalize ((w2.setCell ⟨w.heap.size,0,none⟩ (.int .i64 (er:Int))).setCell ⟨w.heap.size,1,none⟩ (.int .i64 (a:Int)))=w3 at *;have q0:w3.cell? ⟨w.heap.size,0,none⟩=some (.int .i64 (er:Int)):=by simp [World.cell?,s2]
    have q1:w3.cell? ⟨w.heap.size,1,none⟩=some (.int .i64 (a:Int)):=by simp [World.cell?,s2]
    refine bodyPost_ret (v:=.tuple #[.slice none 0 0,.pointer none,qA er a]) ?_ rfl ?_
    ·simp [results,Tryz.results27,go_sem,q0,q1,qA]
    ·rw [HRD.out,hN];exact⟨_,_,_,rfl,HB3.out.drew⟩)
  | ok l p =>
   rw [hN] at hA;obtain⟨tv,pv,rfl,ht,hp,hb⟩:=hA;obtain⟨ta,tc,rfl⟩:=xB ht;obtain⟨pa,pc,rfl⟩:=xB hp;have hf:=HNN.out.fit s l p hN;have k6:=(hb.block _ (Array.getElem?_eq_some_iff.1 h6).1).trans h6;have hl6:w.heap.size < w1.heap.size:=(Array.getElem?_eq_some_iff.1 k6).1;have HS:=hid (show w.heap.size≠w1.heap.size by omega);have hBw:=hB.trans (hb.mono (by have:=hB.size;omega));have hb2:=((Below.refl w1.heap.size w1).alloc (Nat.le_refl _) (Obj.cells #[.int .i64 0,.int .i64 0] 35)).alloc (by simp) (Obj.cells #[.string ⟨s.toArray⟩,.slice ta l.length tc,.slice pa p.length pc,.int .i64 0,.bool false] 57);have k9:=heap_alloc_new w1 (.cells #[.int .i64 0,.int .i64 0] 35);have kr:=heap_alloc_new (w1.alloc (.cells #[.int .i64 0,.int .i64 0] 35)) (.cells #[.string ⟨s.toArray⟩,.slice ta l.length tc,.slice pa p.length pc,.int .i64 0,.bool false] 57);have g9:=(((Below.refl (w1.alloc (.cells #[.int .i64 0,.int .i64 0] 35)).heap.size _).alloc (Nat.le_refl _) (Obj.cells #[.string ⟨s.toArray⟩,.slice ta l.length tc,.slice pa p.length pc,.int .i64 0,.bool false] 57)).block w1.heap.size (by simp)).trans k9;have g6:=(hb2.block _ hl6).trans k6;have hRd:=gY (c:=w1.heap.size+1) ht hp hf (Fr.below hb2) (by omega) (by simpa using kr);unfold qA;go_wp2_with fail;have hsz:((w1.alloc (.cells #[.int .i64 0,.int .i64 0] 35)).alloc (.cells #[.string ⟨s.toArray⟩,.slice ta l.length tc,.slice pa p.length pc,.int .i64 0,.bool false] 57)).heap.size=w1.heap.size+1+1:=by simp
   have hrow:=CD ht (Fr.below (X:=[]) hb2) (fun b hb'=>by simp at hb');generalize ((w1.alloc (.cells #[.int .i64 0,.int .i64 0] 35)).alloc (.cells #[.string ⟨s.toArray⟩,.slice ta l.length tc,.slice pa p.length pc,.int .i64 0,.bool false] 57))=W2 at *;have HTL:=hid ht.lt;have hwA:w.heap.size < wA.heap.size:=(Array.getElem?_eq_some_iff.1 h6).1;clear kr k9 ht hp;refine (XT (E:=({ s:=s,l:=l,pair:=p,ta:=ta,tcap:=tc,pa:=pa,pcap:=pc,zb:=0,zo:=none }:Ev)) (c:=w1.heap.size+1) hRd rfl hf.small goal).mono ?_;intro e w5 hA;unfold mF at hA;have hF52:∀ {x:R Tr},True:=trivial;cases hT:FD ({ s:=s,l:=l,pair:=p,ta:=ta,tcap:=tc,pa:=pa,pcap:=pc,zb:=0,zo:=none }:Ev).toEnv goal with
   | out=>exact absurd hT kQ
   | bad k =>
    rw [hT] at hA;obtain⟨rfl,hF5⟩:=hA;have HBL5:Below w.heap.size w w5:=(Fr.below_of (c:=w1.heap.size+1) hF5 (hBw.trans (hb2.mono (by omega))) (by omega));have j6:=hF5.at_ (by simp;omega) g6;have j9:=hF5.at_ (by simp) g9;have c1:w5.cell? ⟨w.heap.size,0,none⟩=some (.int .i64 0):=by simp [World.cell?,j6]
    have c2:w5.cell? ⟨w.heap.size,1,none⟩=some (.int .i64 0):=by simp [World.cell?,j6]
    have c3:w5.cell? ⟨w1.heap.size,0,none⟩=some (.int .i64 0):=by simp [World.cell?,j9]
    have c4:w5.cell? ⟨w1.heap.size,1,none⟩=some (.int .i64 0):=by simp [World.cell?,j9]
    have f1:w5.frozen? ⟨w.heap.size,0,none⟩=false:=by simp [World.frozen?,j6]
    have f2:w5.frozen? ⟨w.heap.size,1,none⟩=false:=by simp [World.frozen?,j6]
    have f3:w5.frozen? ⟨w1.heap.size,0,none⟩=false:=by simp [World.frozen?,j9]
    have f4:w5.frozen? ⟨w1.heap.size,1,none⟩=false:=by simp [World.frozen?,j9]
    have n9:=heap_setCell_same (w5.setCell ⟨w1.heap.size,0,none⟩ (.int .i64 7)) w1.heap.size 1 _ _ (.int .i64 ((FB ({ s:=s,l:=l,pair:=p,ta:=ta,tcap:=tc,pa:=pa,pcap:=pc,zb:=0,zo:=none }:Ev).toEnv k:Nat):Int)) (heap_setCell_same w5 w1.heap.size 0 _ _ (.int .i64 7) j9);have n6:=(Below.heap_setCell (w5.setCell ⟨w1.heap.size,0,none⟩ (.int .i64 7)) ⟨w1.heap.size,1,none⟩ (.int .i64 ((FB ({ s:=s,l:=l,pair:=p,ta:=ta,tcap:=tc,pa:=pa,pcap:=pc,zb:=0,zo:=none }:Ev).toEnv k:Nat):Int)) w.heap.size HS.out).trans ((Below.heap_setCell w5 ⟨w1.heap.size,0,none⟩ (.int .i64 7) w.heap.size HS.out).trans j6);have HB7:=hid ((HBL5.setCell (p:=⟨w1.heap.size,0,none⟩) (Nat.le_of_lt hl6) (.int .i64 7)).setCell (p:=⟨w1.heap.size,1,none⟩) (Nat.le_of_lt hl6) (.int .i64 ((FB ({ s:=s,l:=l,pair:=p,ta:=ta,tcap:=tc,pa:=pa,pcap:=pc,zb:=0,zo:=none }:Ev).toEnv k:Nat):Int)));have hG:Fr [w1.heap.size] w5 ((w5.setCell ⟨w1.heap.size,0,none⟩ (.int .i64 7)).setCell ⟨w1.heap.size,1,none⟩ (.int .i64 ((FB ({ s:=s,l:=l,pair:=p,ta:=ta,tcap:=tc,pa:=pa,pcap:=pc,zb:=0,zo:=none }:Ev).toEnv k:Nat):Int))):=(NA w1.heap.size 0 w5 _).trans (NA w1.heap.size 1 _ _);simp only [List.setIfInBounds_toArray,List.set_cons_zero,List.set_cons_succ] at n9;have HS2:=hid (Ne.symm HS.out);clear j6 j9;unfold qA;go_wp2_with fail;generalize ((w5.setCell ⟨w1.heap.size,0,none⟩ (.int .i64 7)).setCell ⟨w1.heap.size,1,none⟩ (.int .i64 ((FB ({ s:=s,l:=l,pair:=p,ta:=ta,tcap:=tc,pa:=pa,pcap:=pc,zb:=0,zo:=none }:Ev).toEnv k:Nat):Int)))=w6 at *;clear c1 c2 c3 c4 f1 f2 f3 f4;have d1:w6.cell? ⟨w.heap.size,0,none⟩=some (.int .i64 0):=by simp [World.cell?,n6]
    have d2:w6.cell? ⟨w.heap.size,1,none⟩=some (.int .i64 0):=by simp [World.cell?,n6]
    have d3:w6.cell? ⟨w1.heap.size,0,none⟩=some (.int .i64 7):=by simp [World.cell?,n9]
    have d4:w6.cell? ⟨w1.heap.size,1,none⟩=some (.int .i64 ((FB ({ s:=s,l:=l,pair:=p,ta:=ta,tcap:=tc,pa:=pa,pcap:=pc,zb:=0,zo:=none }:Ev).toEnv k:Nat):Int)):=by simp [World.cell?,n9]
    have f1:w6.frozen? ⟨w.heap.size,0,none⟩=false:=by simp [World.frozen?,n6]
    have f2:w6.frozen? ⟨w.heap.size,1,none⟩=false:=by simp [World.frozen?,n6]
    have s2:=heap_setCell_same (w6.setCell ⟨w.heap.size,0,none⟩ (.int .i64 7)) w.heap.size 1 _ _ (.int .i64 ((FB ({ s:=s,l:=l,pair:=p,ta:=ta,tcap:=tc,pa:=pa,pcap:=pc,zb:=0,zo:=none }:Ev).toEnv k:Nat):Int)) (heap_setCell_same w6 w.heap.size 0 _ _ (.int .i64 7) n6);simp only [List.setIfInBounds_toArray,List.set_cons_zero,List.set_cons_succ] at s2;have HB8:=hid ((HB7.out.setCell (p:=⟨w.heap.size,0,none⟩) (Nat.le_refl _) (.int .i64 7)).setCell (p:=⟨w.heap.size,1,none⟩) (Nat.le_refl _) (.int .i64 ((FB ({ s:=s,l:=l,pair:=p,ta:=ta,tcap:=tc,pa:=pa,pcap:=pc,zb:=0,zo:=none }:Ev).toEnv k:Nat):Int)));have hH:Fr [w.heap.size] w6 ((w6.setCell ⟨w.heap.size,0,none⟩ (.int .i64 7)).setCell ⟨w.heap.size,1,none⟩ (.int .i64 ((FB ({ s:=s,l:=l,pair:=p,ta:=ta,tcap:=tc,pa:=pa,pcap:=pc,zb:=0,zo:=none }:Ev).toEnv k:Nat):Int))):=(NA w.heap.size 0 w6 _).trans (NA w.heap.size 1 _ _);have HFF:=hid (And.intro hG hH);clear n6 n9 hG hH;go_region
    all_goals (go_wp2_with fail)
    all_goals (
     generalize ((w6.setCell ⟨w.heap.size,0,none⟩ (.int .i64 7)).setCell ⟨w.heap.size,1,none⟩ (.int .i64 ((FB ({ s:=s,l:=l,pair:=p,ta:=ta,tcap:=tc,pa:=pa,pcap:=pc,zb:=0,zo:=none }:Ev).toEnv k:Nat):Int)))=w7 at *;have q0:w7.cell? ⟨w.heap.size,0,none⟩=some (.int .i64 7):=by simp [World.cell?,s2]
     have q1:w7.cell? ⟨w.heap.size,1,none⟩=some (.int .i64 ((FB ({ s:=s,l:=l,pair:=p,ta:=ta,tcap:=tc,pa:=pa,pcap:=pc,zb:=0,zo:=none }:Ev).toEnv k:Nat):Int)):=by simp [World.cell?,s2]
     refine bodyPost_ret (v:=.tuple #[.slice ta l.length tc,.pointer none,.agg #[(.int .i64 7),(.int .i64 ((FB ({ s:=s,l:=l,pair:=p,ta:=ta,tcap:=tc,pa:=pa,pcap:=pc,zb:=0,zo:=none }:Ev).toEnv k:Nat):Int))]]) ?_ rfl ?_
     ·simp [results,Tryz.results27,go_sem,q0,q1]
     ·rw [HRD.out,hN];simp only [];rw [hT];exact⟨_,_,_,rfl,HB8.out.drew⟩)
   | ok t m =>
    rw [hT] at hA;obtain⟨q,rfl,hN5,hF5⟩:=hA;have HBL5:Below w.heap.size w w5:=(Fr.below_of (c:=w1.heap.size+1) hF5 (hBw.trans (hb2.mono (by omega))) (by omega));have HN5:=hid (And.intro hN5 (And.intro hrow (And.intro hF5 (And.intro hsz (And.intro hwA hl6)))));have j6:=hF5.at_ (by simp;omega) g6;have j9:=hF5.at_ (by simp) g9;have c1:w5.cell? ⟨w.heap.size,0,none⟩=some (.int .i64 0):=by simp [World.cell?,j6]
    have c2:w5.cell? ⟨w.heap.size,1,none⟩=some (.int .i64 0):=by simp [World.cell?,j6]
    have c3:w5.cell? ⟨w1.heap.size,0,none⟩=some (.int .i64 0):=by simp [World.cell?,j9]
    have c4:w5.cell? ⟨w1.heap.size,1,none⟩=some (.int .i64 0):=by simp [World.cell?,j9]
    have f1:w5.frozen? ⟨w.heap.size,0,none⟩=false:=by simp [World.frozen?,j6]
    have f2:w5.frozen? ⟨w.heap.size,1,none⟩=false:=by simp [World.frozen?,j6]
    have f3:w5.frozen? ⟨w1.heap.size,0,none⟩=false:=by simp [World.frozen?,j9]
    have f4:w5.frozen? ⟨w1.heap.size,1,none⟩=false:=by simp [World.frozen?,j9]
    have n9:=heap_setCell_same (w5.setCell ⟨w1.heap.size,0,none⟩ (.int .i64 0)) w1.heap.size 1 _ _ (.int .i64 0) (heap_setCell_same w5 w1.heap.size 0 _ _ (.int .i64 0) j9);have n6:=(Below.heap_setCell (w5.setCell ⟨w1.heap.size,0,none⟩ (.int .i64 0)) ⟨w1.heap.size,1,none⟩ (.int .i64 0) w.heap.size HS.out).trans ((Below.heap_setCell w5 ⟨w1.heap.size,0,none⟩ (.int .i64 0) w.heap.size HS.out).trans j6);have HB7:=hid ((HBL5.setCell (p:=⟨w1.heap.size,0,none⟩) (Nat.le_of_lt hl6) (.int .i64 0)).setCell (p:=⟨w1.heap.size,1,none⟩) (Nat.le_of_lt hl6) (.int .i64 0));have hG:Fr [w1.heap.size] w5 ((w5.setCell ⟨w1.heap.size,0,none⟩ (.int .i64 0)).setCell ⟨w1.heap.size,1,none⟩ (.int .i64 0)):=(NA w1.heap.size 0 w5 _).trans (NA w1.heap.size 1 _ _);simp only [List.setIfInBounds_toArray,List.set_cons_zero,List.set_cons_succ] at n9;have HS2:=hid (Ne.symm HS.out);clear j6 j9;unfold qA;go_wp2_with fail;generalize ((w5.setCell ⟨w1.heap.size,0,none⟩ (.int .i64 0)).setCell ⟨w1.heap.size,1,none⟩ (.int .i64 0))=w6 at *;clear c1 c2 c3 c4 f1 f2 f3 f4;have d1:w6.cell? ⟨w.heap.size,0,none⟩=some (.int .i64 0):=by simp [World.cell?,n6]
    have d2:w6.cell? ⟨w.heap.size,1,none⟩=some (.int .i64 0):=by simp [World.cell?,n6]
    have d3:w6.cell? ⟨w1.heap.size,0,none⟩=some (.int .i64 0):=by simp [World.cell?,n9]
    have d4:w6.cell? ⟨w1.heap.size,1,none⟩=some (.int .i64 0):=by simp [World.cell?,n9]
    have f1:w6.frozen? ⟨w.heap.size,0,none⟩=false:=by simp [World.frozen?,n6]
    have f2:w6.frozen? ⟨w.heap.size,1,none⟩=false:=by simp [World.frozen?,n6]
    have s2:=heap_setCell_same (w6.setCell ⟨w.heap.size,0,none⟩ (.int .i64 0)) w.heap.size 1 _ _ (.int .i64 0) (heap_setCell_same w6 w.heap.size 0 _ _ (.int .i64 0) n6);simp only [List.setIfInBounds_toArray,List.set_cons_zero,List.set_cons_succ] at s2;have HB8:=hid ((HB7.out.setCell (p:=⟨w.heap.size,0,none⟩) (Nat.le_refl _) (.int .i64 0)).setCell (p:=⟨w.heap.size,1,none⟩) (Nat.le_refl _) (.int .i64 0));have hH:Fr [w.heap.size] w6 ((w6.setCell ⟨w.heap.size,0,none⟩ (.int .i64 0)).setCell ⟨w.heap.size,1,none⟩ (.int .i64 0)):=(NA w.heap.size 0 w6 _).trans (NA w.heap.size 1 _ _);have HFF:=hid (And.intro hG hH);clear n6 n9 hG hH;go_region
    all_goals (go_wp2_with fail)
    all_goals (
     generalize ((w6.setCell ⟨w.heap.size,0,none⟩ (.int .i64 0)).setCell ⟨w.heap.size,1,none⟩ (.int .i64 0))=w7 at *;have q0:w7.cell? ⟨w.heap.size,0,none⟩=some (.int .i64 0):=by simp [World.cell?,s2]
     have q1:w7.cell? ⟨w.heap.size,1,none⟩=some (.int .i64 0):=by simp [World.cell?,s2]
     refine bodyPost_ret (v:=.tuple #[.slice ta l.length tc,.pointer (some ⟨q,0,none⟩),.agg #[(.int .i64 0),(.int .i64 0)]]) ?_ rfl ?_
     ·simp [results,Tryz.results27,go_sem,q0,q1]
     ·rw [HRD.out,hN];simp only [];rw [hT];obtain⟨z1,z2,z3,z4,z5,z6⟩:=HN5.out;obtain⟨y1,y2⟩:=HFF.out;refine⟨_,q,rfl,?_,?_,HB8.out.drew⟩
      ·refine YP (lo:=wA.heap.size) ?_ (by omega);refine CD (CD (CD (CD z2 z3 ?_) y1 ?_) y2 ?_) (Fr.below (X:=[]) (Below.refl _ _).drew) ?_
       ·intro b hb' e;simp at hb';have:=HTL.out b e;omega
       ·intro b hb' e;simp at hb';have:=HTL.out b e;omega
       ·intro b hb' e;simp at hb';have:=HTL.out b e;omega
       ·intro b hb' e;simp at hb'
      ·have e1:=z1.later y1 (fun k hk=>by simp at hk;omega) (Nat.le_refl _) y1.size;have e2:=e1.later y2 (fun k hk=>by simp at hk;omega) (Nat.le_refl _) y2.size;exact EA.kept (w:=w7) (w':=w7.drew) (fun _ _ _=>rfl) (show w.heap.size≤W2.heap.size by omega) (Nat.le_refl _) q t e2)
end
end Go.Proofs.YtfmpphplbdojbaaGreatDoor
