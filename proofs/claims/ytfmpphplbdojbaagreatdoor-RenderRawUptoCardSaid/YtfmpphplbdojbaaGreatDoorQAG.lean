import Derived.Test.YtfmpphplbdojbaaGreatDoorQAF
import Derived.Test.YtfmpphplbdojbaaGreatDoorQAB
import Derived.Maps.AppendAt
import Derived.Laws.AppendOwnNone
namespace Go.Proofs.YtfmpphplbdojbaaGreatDoor
open Lib(hid)
set_option linter.all false
set_option maxHeartbeats 40000000
set_option maxRecDepth 100000
section
open Go.RowKit
theorem Rd.below {E:Ev}{c n:Nat}{g:Bool}{w w':World} (h:Rd E c n g w) (hb:Below w.heap.size w w'):Rd E c n g w':=h.later (Fr.below (X:=[]) hb) (fun k m=>by cases m) (.inr (by simp))
theorem ZD (E:Ev) (c:Nat) (i:Int) (w:World) (h1:w.cell? ⟨c,1,none⟩=some (.slice E.ta E.l.length E.tcap)) (hl:Lie E c w) :
  Calls Tryz.prog 180 #[.pointer (some ⟨c,0,none⟩),.int .i64 i] w fun e w'=>e=.returned (.int .u8 ((E.kind i).toNat:Int))∧Below w.heap.size w w':=by
 by_cases hi:i < 0
 ·have d0:decide (i < 0)=true:=decide_eq_true hi;have hw:E.kind i=0:=by unfold Env.kind;rw [if_pos hi]
  rw [hw];clear hi hw hl;go_enter Tryz.func180,Tryz.ntmps180;go_wp2_with fail
  all_goals (go_ret;exact⟨rfl,by first|exact Below.refl _ _|exact (Below.refl _ _).drew⟩)
 ·have d0:decide (i < 0)=false:=decide_eq_false hi;obtain⟨n,rfl⟩:=Int.eq_ofNat_of_zero_le (Int.not_lt.1 hi);by_cases hn:n < E.l.length
  ·have d1:decide ((E.l.length:Int)≤(n:Int))=false:=decide_eq_false (by omega);have ht:E.l[n]?=some (E.l[n]):=List.getElem?_eq_getElem hn;have hw:E.kind (n:Int)=E.l[n].kind:=by
    unfold Env.kind;rw [if_neg hi];simp only [Int.toNat_natCast,ht]
   obtain⟨b,o,hta,_,c0,_,_⟩:=hl.toks n _ ht;rw [hw];generalize E.l[n]=t at *;rw [hta] at h1;have b0:(0:Int)≤(n:Int):=by omega
   have b1:(n:Int) < (E.l.length:Int):=by omega
   clear hl ht hta hw;go_enter Tryz.func180,Tryz.ntmps180;go_wp2_with fail;go_ret;exact⟨rfl,Below.refl _ _⟩
  ·have d1:decide ((E.l.length:Int)≤(n:Int))=true:=decide_eq_true (by omega);have hw:E.kind (n:Int)=0:=by unfold Env.kind;rw [if_neg hi];simp only [Int.toNat_natCast,List.getElem?_eq_none (Nat.le_of_not_lt hn)]
   rw [hw];clear hw hl;go_enter Tryz.func180,Tryz.ntmps180;go_wp2_with fail
   all_goals (go_ret;exact⟨rfl,by first|exact Below.refl _ _|exact (Below.refl _ _).drew⟩)
theorem pE {E:Ev}{c n:Nat}{g:Bool}{w:World} (h:Rd E c n g w) :
  Calls Tryz.prog 109 #[.pointer (some ⟨c,0,none⟩)] w fun e w'=>e=.returned (.string ⟨(E.word n).toArray⟩)∧Below w.heap.size w w':=by
 obtain⟨h0,h1,h2,h3,h4⟩:=h.cells;have HW:=hid (BH E c (n:Int) w h0 h1 h.lie);clear h;go_enter Tryz.func109,Tryz.ntmps109;go_wp2_with fail;refine HW.out.mono ?_;rintro e w1 ⟨rfl,hb⟩;go_wp2_with fail;go_ret;exact⟨rfl,hb⟩
theorem tT {E:Ev}{c n:Nat}{g:Bool}{w:World} (h:Rd E c n g w) :
  Calls Tryz.prog 70 #[.pointer (some ⟨c,0,none⟩)] w fun e w'=>e=.returned (.bool (E.ended n))∧Below w.heap.size w w':=by
 obtain⟨h0,h1,h2,h3,h4⟩:=h.cells;have hd:((n:Int)==(E.l.length:Int))=E.ended n:=by
  unfold Env.ended;rw [Bool.eq_iff_iff];simp;omega
 have HD:=hid hd;clear h hd;go_enter Tryz.func70,Tryz.ntmps70;go_wp2_with fail;go_region;go_wp2_with fail;go_ret;exact⟨by rw [← HD.out];rfl,(Below.refl _ _).drew⟩
theorem eK {E:Ev}{c n:Nat}{g:Bool}{w:World} (h:Rd E c n g w) (i:Int) :
  Calls Tryz.prog 143 #[.pointer (some ⟨c,0,none⟩),.int .i64 i] w fun e w'=>e=.returned (.bool (E.named i))∧Below w.heap.size w w':=by
 obtain⟨h0,h1,h2,h3,h4⟩:=h.cells;have HK:=hid (ZD E c i w h1 h.lie);have hd:(((E.kind i).toNat:Int)==1)=E.named i:=by
  unfold Env.named;rw [Bool.eq_iff_iff,beq_iff_eq,beq_iff_eq,← UInt8.toNat_inj]
  show _↔(E.kind i).toNat=1
  omega
 have HD:=hid hd;clear h hd;go_enter Tryz.func143,Tryz.ntmps143;go_wp2_with fail;refine HK.out.mono ?_;rintro e w1 ⟨rfl,hb⟩;go_wp2_with fail;go_ret;exact⟨by rw [← HD.out];rfl,hb⟩
theorem VH {E:Ev}{c n:Nat}{g:Bool}{w:World} (h:Rd E c n g w) :
  Calls Tryz.prog 71 #[.pointer (some ⟨c,0,none⟩)] w fun e w'=>e=.panicked [{ v:=.iface 111 (.int .i64 (n:Int)),recovered:=false }]∧w'=w:=by
 obtain⟨h0,h1,h2,h3,h4⟩:=h.cells;clear h;go_enter Tryz.func71,Tryz.ntmps71;go_wp2_with fail;exact⟨rfl,rfl,rfl⟩
theorem lA {w w':World} (c:Nat) (h:Below w.heap.size w w'):Fr [c] w w':=Fr.below h
theorem NH {E:Ev}{c n:Nat}{g:Bool}{w:World} (h:Rd E c n g w) (x:UInt8) (ws:List UInt8) :
  Calls Tryz.prog 107 #[.pointer (some ⟨c,0,none⟩),.string ⟨(x::ws).toArray⟩] w (Did E c g (want E.toEnv (x::ws) n) w):=by
 have HN:=hid (pE h);have HR:=hid h;have hs:(n:Int)≤1099511627776:=by have:=h.at_;have:=h.lie.small;omega
 cases hw:E.is n (x::ws) with
 | true =>
  have hlt:=gA hw;have hd:(E.word n==x::ws)=true:=hw;have hr:want E.toEnv (x::ws) n=.ok () (n+1):=by unfold want;rw [if_pos hw]
  rw [hr];have HL:=hid hlt;clear h hw hr hlt;go_enter Tryz.func107,Tryz.ntmps107;go_wp2_with fail;refine HN.out.mono ?_;rintro e w1 ⟨rfl,hb⟩;have hR1:=HR.out.below hb;obtain⟨h0,h1,h2,h3,h4⟩:=hR1.cells;have f3:=hR1.free 3;have HR1:=hid hR1;clear hR1;go_wp2_with fail;go_end0;exact⟨rfl,by simpa using HR1.out.moved (n+1) (by have:=HL.out;omega),(lA c hb).trans (by simpa using Fr.set (a:=⟨c,3,none⟩))⟩
 | false =>
  have hd:(E.word n==x::ws)=false:=hw;have hr:want E.toEnv (x::ws) n=.bad n:=by unfold want;rw [if_neg (by rw [hw];decide)]
  rw [hr];clear h hw hr;go_enter Tryz.func107,Tryz.ntmps107;go_wp2_with fail;refine HN.out.mono ?_;rintro e w1 ⟨rfl,hb⟩;have hR1:=HR.out.below hb;have HF:=hid (VH hR1);have HR1:=hid hR1;clear hR1;go_wp2_with fail;refine HF.out.mono ?_;rintro e w2 ⟨rfl,rfl⟩;exact⟨rfl,rfl,⟨g,HR1.out⟩,lA c hb⟩
def May (E:Ev) (c:Nat) (g:Bool) (ws:List UInt8) (n:Nat) (w:World) (e:Ending) (w':World):Prop :=
 e=.returned (.bool (E.is n ws))∧Rd E c (PB E.toEnv ws n) g w'∧Fr [c] w w'
theorem aK {E:Ev}{c n:Nat}{g:Bool}{w:World} (h:Rd E c n g w) (x:UInt8) (ws:List UInt8) :
  Calls Tryz.prog 69 #[.pointer (some ⟨c,0,none⟩),.string ⟨(x::ws).toArray⟩] w (May E c g (x::ws) n w):=by
 have HN:=hid (pE h);have HR:=hid h;have hs:(n:Int)≤1099511627776:=by have:=h.at_;have:=h.lie.small;omega
 cases hw:E.is n (x::ws) with
 | true =>
  have hlt:=gA hw;have hd:(E.word n==x::ws)=true:=hw;have hr:PB E.toEnv (x::ws) n=n+1:=by unfold PB;rw [if_pos hw]
  have HL:=hid (And.intro hlt (And.intro hr hw));clear h hw hr hlt;go_enter Tryz.func69,Tryz.ntmps69;go_wp2_with fail;refine HN.out.mono ?_;rintro e w1 ⟨rfl,hb⟩;have hR1:=HR.out.below hb;obtain⟨h0,h1,h2,h3,h4⟩:=hR1.cells;have f3:=hR1.free 3;have HR1:=hid hR1;clear hR1;go_wp2_with fail;go_ret;exact⟨by rw [HL.out.2.2];rfl,by rw [HL.out.2.1];simpa using HR1.out.moved (n+1) (by have:=HL.out.1;omega),(lA c hb).trans (by simpa using Fr.set (a:=⟨c,3,none⟩))⟩
 | false =>
  have hd:(E.word n==x::ws)=false:=hw;have hr:PB E.toEnv (x::ws) n=n:=by unfold PB;rw [if_neg (by rw [hw];decide)]
  have HL:=hid (And.intro hr hw);clear h hw hr;go_enter Tryz.func69,Tryz.ntmps69;go_wp2_with fail;refine HN.out.mono ?_;rintro e w1 ⟨rfl,hb⟩;go_wp2_with fail;go_ret;exact⟨by rw [HL.out.2];rfl,by rw [HL.out.1];exact HR.out.below hb,lA c hb⟩
def New (E:Ev) (c n:Nat) (g:Bool) (k:UInt8) (wd:Int) (f t:Nat) (w:World) (e:Ending) (w':World):Prop :=
 ∃ p,e=.returned (.pointer (some ⟨p,0,none⟩))∧w.heap.size≤p∧YC w' p k wd f t (.slice none 0 0)∧Rd E c n g w'∧Below w.heap.size w w'
theorem wJ {E:Ev}{c n:Nat}{g:Bool}{w:World} (h:Rd E c n g w) (k:UInt8) :
  Calls Tryz.prog 153 #[.pointer (some ⟨c,0,none⟩),.int .u8 (k.toNat:Int)] w (New E c n g k (-1) n n w):=by
 obtain⟨h0,h1,h2,h3,h4⟩:=h.cells;have HR:=hid h;clear h;go_enter Tryz.func153,Tryz.ntmps153;go_wp2_with fail;go_region
 all_goals (go_wp2_with fail)
 all_goals go_ret
 have hB:=((Below.refl w.heap.size w).alloc (Nat.le_refl _) (Obj.cells #[.int .u8 (k.toNat:Int),.int .i64 (-1),.int .i64 (n:Int),.int .i64 (n:Int),.slice none 0 0] 61)).drew;exact⟨w.heap.size,rfl,Nat.le_refl _,heap_alloc_new w _,HR.out.below hB,hB⟩
theorem uP {E:Ev}{c n:Nat}{g:Bool}{w:World} (h:Rd E c n g w) (k:UInt8) :
  Calls Tryz.prog 106 #[.pointer (some ⟨c,0,none⟩),.int .u8 (k.toNat:Int)] w (New E c n g k (-1) n 0 w):=by
 obtain⟨h0,h1,h2,h3,h4⟩:=h.cells;have HR:=hid h;clear h;go_enter Tryz.func106,Tryz.ntmps106;go_wp2_with fail;go_ret;have hB:=(Below.refl w.heap.size w).alloc (Nat.le_refl _) (Obj.cells #[.int .u8 (k.toNat:Int),.int .i64 (-1),.int .i64 (n:Int),.int .i64 0,.slice none 0 0] 61);exact⟨w.heap.size,rfl,Nat.le_refl _,heap_alloc_new w _,HR.out.below hB,hB⟩
theorem EG {w:World}{p:Nat}{k:UInt8}{wd:Int}{f t lo hi:Nat} (h:YC w p k wd f t (.slice none 0 0)) (h1:lo≤p) (h2:p < hi):EA w lo hi p (.mk k wd f t []) :=
 ⟨⟨h1,h2⟩,none,0,[],h,.inl rfl,trivial⟩
theorem IL {E:Ev}{c n:Nat}{g:Bool}{w:World} (h:Rd E c n g w) (k:UInt8) (ok:Bool) (hok:ok=true→n < E.l.length) :
  Calls Tryz.prog 155 #[.pointer (some ⟨c,0,none⟩),.int .u8 (k.toNat:Int),.bool ok] w (Ans E c g (leaf k ok n) w):=by
 have HR:=hid h;have hs:(n:Int)≤1099511627776:=by have:=h.at_;have:=h.lie.small;omega
 cases ok with
 | true =>
  have hlt:=hok rfl;have f3:=h.free 3;obtain⟨h0,h1,h2,h3,h4⟩:=h.cells;have HL:=hid hlt;clear h hok hlt;have hM:=HR.out.moved (n+1) (by have:=HL.out;omega);obtain⟨m0,m1,m2,m3,m4⟩:=hM.cells;have hF:Fr [c] w (w.setCell ⟨c,3,none⟩ (.int .i64 ((n+1:Nat):Int))):=Fr.set (a:=⟨c,3,none⟩);have HM:=hid (And.intro hM hF);clear hM hF;rw [show ((n+1:Nat):Int)=(n:Int)+1 from by omega] at m0 m1 m2 m3 m4 HM;go_enter Tryz.func155,Tryz.ntmps155;go_wp2_with fail;generalize w.setCell ⟨c,3,none⟩ (.int .i64 ((n:Int)+1))=w1 at *;have hn1:(n:Int)+1 - 1=n:=by omega
  clear h0 h1 h2 h3 h4 f3 m0 m1 m2 m4;go_region
  all_goals (go_wp2_with fail)
  all_goals go_ret
  have hB:=((Below.refl w1.heap.size w1).alloc (Nat.le_refl _) (Obj.cells #[.int .u8 (k.toNat:Int),.int .i64 (n:Int),.int .i64 (n:Int),.int .i64 ((n:Int)+1),.slice none 0 0] 61)).drew;have hO:YC (w1.alloc (Obj.cells #[.int .u8 (k.toNat:Int),.int .i64 (n:Int),.int .i64 (n:Int),.int .i64 ((n:Int)+1),.slice none 0 0] 61)).drew w1.heap.size k n n (n+1) (.slice none 0 0):=heap_alloc_new w1 _;exact⟨w1.heap.size,rfl,HM.out.1.below hB,EG hO HM.out.2.size (by simp),HM.out.2.trans (lA c hB)⟩
 | false =>
  have HF:=hid (VH h);clear h hok;go_enter Tryz.func155,Tryz.ntmps155;go_wp2_with fail;refine HF.out.mono ?_;rintro e w2 ⟨rfl,rfl⟩;exact⟨rfl,rfl,⟨g,HR.out⟩,Fr.refl _ _⟩
theorem eW {E:Env}{n:Nat} (h:E.named n=true):n < E.l.length:=by
 apply Decidable.byContradiction;intro hn;rw [pI (by omega)] at h;cases h
theorem OT {E:Env}{n:Nat} (h:E.quoted n=true):n < E.l.length:=by
 apply Decidable.byContradiction;intro hn;rw [Env.quoted,FG (by omega)] at h;cases h
theorem Ans.behind {E:Ev}{c:Nat}{g:Bool}{r:R Tr}{w w1:World}{e:Ending}{w':World} (h:Ans E c g r w1 e w') (hf:Fr [c] w w1):Ans E c g r w e w':=by
 unfold Ans at h ⊢;cases r with
 | ok t n =>
  obtain⟨p,h1,h2,h3,h4⟩:=h;exact⟨p,h1,h2,EA.kept (fun _ _ _=>rfl) hf.size (Nat.le_refl _) p t h3,hf.trans h4⟩
 | bad k=>exact⟨h.1,h.2.1,hf.trans h.2.2⟩
 | out=>exact h
theorem VI {E:Ev}{c n:Nat}{g:Bool}{w:World} (h:Rd E c n g w) (i:Int) :
  Calls Tryz.prog 208 #[.pointer (some ⟨c,0,none⟩),.int .i64 i] w fun e w'=>e=.returned (.bool (E.quoted i))∧Below w.heap.size w w':=by
 obtain⟨h0,h1,h2,h3,h4⟩:=h.cells;have HK:=hid (ZD E c i w h1 h.lie);have hd:(((E.kind i).toNat:Int)==7)=E.quoted i:=by
  unfold Env.quoted;rw [Bool.eq_iff_iff,beq_iff_eq,beq_iff_eq,← UInt8.toNat_inj]
  show _↔(E.kind i).toNat=7
  omega
 have HD:=hid hd;clear h hd;go_enter Tryz.func208,Tryz.ntmps208;go_wp2_with fail;refine HK.out.mono ?_;rintro e w1 ⟨rfl,hb⟩;go_wp2_with fail;go_ret;exact⟨by rw [← HD.out];rfl,hb⟩
theorem yJ {E:Ev}{c n:Nat}{g:Bool}{w:World} (h:Rd E c n g w) :
  Calls Tryz.prog 108 #[.pointer (some ⟨c,0,none⟩)] w (Ans E c g (LC E.toEnv n) w):=by
 obtain⟨h0,h1,h2,h3,h4⟩:=h.cells;have HR:=hid h;have HN:=hid (eK h (n:Int));clear h h0 h1 h2 h4;go_enter Tryz.func108,Tryz.ntmps108;go_wp2_with fail;refine HN.out.mono ?_;rintro e w1 ⟨rfl,hb⟩;have HL:=hid (IL (HR.out.below hb) 26 (E.named n) (fun h=>eW h));generalize hx:E.named (n:Int)=x at HL ⊢;go_wp2_with fail;refine HL.out.mono ?_;rintro e w2 hA;have hA2:Ans E c g (LC E.toEnv n) w e w2:=by
  have:=hA.behind (lA c hb);rw [← hx] at this;exact this
 clear hA HL HN HR h3 hb hx;generalize LC E.toEnv n=r at *;cases r with
 | ok t m =>
  obtain⟨p,rfl,q1,q2,q3⟩:=hA2;go_wp2_with fail;go_ret;exact⟨p,rfl,q1,q2,q3⟩
 | bad k =>
  obtain⟨rfl,q1,q2⟩:=hA2;exact⟨rfl,rfl,q1,q2⟩
 | out=>exact hA2.elim
theorem FN {E:Ev}{c n:Nat}{g:Bool}{w:World} (h:Rd E c n g w) :
  Calls Tryz.prog 191 #[.pointer (some ⟨c,0,none⟩)] w (Ans E c g (TH E.toEnv n) w):=by
 obtain⟨h0,h1,h2,h3,h4⟩:=h.cells;have HR:=hid h;have HN:=hid (VI h (n:Int));clear h h0 h1 h2 h4;go_enter Tryz.func191,Tryz.ntmps191;go_wp2_with fail;refine HN.out.mono ?_;rintro e w1 ⟨rfl,hb⟩;have HL:=hid (IL (HR.out.below hb) 27 (E.quoted n) (fun h=>OT h));generalize hx:E.quoted (n:Int)=x at HL ⊢;go_wp2_with fail;refine HL.out.mono ?_;rintro e w2 hA;have hA2:Ans E c g (TH E.toEnv n) w e w2:=by
  have:=hA.behind (lA c hb);rw [← hx] at this;exact this
 clear hA HL HN HR h3 hb hx;generalize TH E.toEnv n=r at *;cases r with
 | ok t m =>
  obtain⟨p,rfl,q1,q2,q3⟩:=hA2;go_wp2_with fail;go_ret;exact⟨p,rfl,q1,q2,q3⟩
 | bad k =>
  obtain⟨rfl,q1,q2⟩:=hA2;exact⟨rfl,rfl,q1,q2⟩
 | out=>exact hA2.elim
end
section
open Go.RowKit
def GB (ps:List Nat):List Value:=ps.map fun (p:Nat)=>Value.pointer (some ⟨p,0,none⟩)
theorem DJ (ps:List Nat):(GB ps).length=ps.length:=by simp [GB]
theorem zG (ps:List Nat):∀ u∈GB ps,u.oneCell'=true:=by
 intro u hu;simp only [GB,List.mem_map] at hu;obtain⟨p,_,rfl⟩:=hu
 rfl
theorem Tryz.infoP:(Tryz.prog.info? 51).map (fun i=>(i.zero,i.size,i.bytes))=some (some (.pointer none),1,8):=by kernel_rfl
def eV (w:World) (ka:Option Addr) (qs:List Nat):Prop:=qs=[]∨∃ b o,ka=some ⟨b,o,none⟩∧∀ (j p:Nat),qs[j]?=some p→w.cell? ⟨b,o+j,none⟩=some (.pointer (some ⟨p,0,none⟩))
structure Opn (w:World) (lo p:Nat) (k:UInt8) (wd:Int) (f t:Nat) (ps:List Nat) (kv:Value):Prop where
 blk:YC w p k wd f t kv
 row:w.ownsRow lo 51 1 kv ps.length (GB ps)
 low:lo≤p
 sep:kv.ownBlock≠some p
theorem YC.cells {w:World}{p:Nat}{k:UInt8}{wd:Int}{f t:Nat}{kv:Value} (h:YC w p k wd f t kv) :
  w.cell? ⟨p,0,none⟩=some (.int .u8 (k.toNat:Int))∧w.cell? ⟨p,1,none⟩=some (.int .i64 wd)∧w.cell? ⟨p,2,none⟩=some (.int .i64 (f:Int))∧w.cell? ⟨p,3,none⟩=some (.int .i64 (t:Int))∧w.cell? ⟨p,4,none⟩=some kv:=by
 have hb:w.heap[p]?=_:=h;refine⟨?_,?_,?_,?_,?_⟩ <;> simp [World.cell?,hb]
theorem YC.free {w:World}{p:Nat}{k:UInt8}{wd:Int}{f t:Nat}{kv:Value} (h:YC w p k wd f t kv) (i:Nat):w.frozen? ⟨p,i,none⟩=false:=by
 have hb:w.heap[p]?=_:=h;simp [World.frozen?,hb]
theorem YC.lt {w:World}{p:Nat}{k:UInt8}{wd:Int}{f t:Nat}{kv:Value} (h:YC w p k wd f t kv):p < w.heap.size:=by
 have hb:w.heap[p]?=_:=h;rcases Nat.lt_or_ge p w.heap.size with h|h
 ·exact h
 ·simp [Array.getElem?_eq_none h] at hb
theorem YC.later {w w':World}{p:Nat}{k:UInt8}{wd:Int}{f t:Nat}{kv:Value}{X:List Nat} (h:YC w p k wd f t kv) (hf:Fr X w w') (hX:p ∉ X):YC w' p k wd f t kv:=hf.at_ hX h
theorem YC.kids {w:World}{p:Nat}{k:UInt8}{wd:Int}{f t:Nat}{kv:Value} (h:YC w p k wd f t kv) (kv':Value):YC (w.setCell ⟨p,4,none⟩ kv') p k wd f t kv':=by
 unfold YC;rw [heap_setCell_same w p 4 _ _ _ h];rfl
theorem YC.end_ {w:World}{p:Nat}{k:UInt8}{wd:Int}{f t:Nat}{kv:Value} (h:YC w p k wd f t kv) (t':Nat):YC (w.setCell ⟨p,3,none⟩ (.int .i64 (t':Int))) p k wd f t' kv:=by
 unfold YC;rw [heap_setCell_same w p 3 _ _ _ h];rfl
theorem YC.named_ {w:World}{p:Nat}{k:UInt8}{wd:Int}{f t:Nat}{kv:Value} (h:YC w p k wd f t kv) (wd':Int):YC (w.setCell ⟨p,1,none⟩ (.int .i64 wd')) p k wd' f t kv:=by
 unfold YC;rw [heap_setCell_same w p 1 _ _ _ h];rfl
theorem YC.kinded {w:World}{p:Nat}{k:UInt8}{wd:Int}{f t:Nat}{kv:Value} (h:YC w p k wd f t kv) (k':UInt8):YC (w.setCell ⟨p,0,none⟩ (.int .u8 (k'.toNat:Int))) p k' wd f t kv:=by
 unfold YC;rw [heap_setCell_same w p 0 _ _ _ h];rfl
theorem xB {w:World}{base:Nat}{e:TypeId}{size:Nat}{v:Value}{n:Nat}{xs:List Value} (h:w.ownsRow base e size v n xs):∃ a cap,v=.slice a n cap:=by
 rcases h.2 with ⟨rfl,rfl⟩|⟨g,cap,cur,rfl,_⟩
 ·exact⟨_,_,rfl⟩
 ·exact⟨_,_,rfl⟩
theorem pD {w w':World}{X:List Nat}{lo:Nat}{kv:Value}{n:Nat}{xs:List Value}{e:TypeId} (h:w.ownsRow lo e 1 kv n xs) (hf:Fr X w w') (hX:∀ b∈X,kv.ownBlock≠some b):w'.ownsRow lo e 1 kv n xs:=by
 rcases h.2 with h0|⟨g,cap,cur,hv,hg,hh,hr⟩
 ·exact⟨h.1,.inl h0⟩
 ·refine⟨h.1,.inr ⟨g,cap,cur,hv,hg,?_,hr⟩⟩;exact hf.at_ (fun m=>hX g m (by rw [hv];rfl)) hh
def YD (kv:Value):List Nat:=match kv.ownBlock with|some b=>[b]|none=>[]
def ZV (E:Ev) (c n:Nat) (g:Bool) (lo p:Nat) (k:UInt8) (wd:Int) (f:Nat) (ps:List Nat) (kv:Value) (w:World) (e:Ending) (w':World):Prop :=
 e=.returned (.pointer (some ⟨p,0,none⟩))∧(∃ kv',Opn w' lo p k wd f n ps kv')∧Rd E c n g w'∧Fr (p::YD kv) w w'
theorem rN {E:Ev}{c n:Nat}{g:Bool}{w:World} (h:Rd E c n g w) {lo p:Nat}{k:UInt8}{wd:Int}{f t:Nat}{ps:List Nat}{kv:Value} (ho:Opn w lo p k wd f t ps kv) (hlo:c < lo) (hz:E.zo=none∨(E.zb≠p∧kv.ownBlock≠some E.zb))
  (b o:Nat) (qs:List Nat) (mc:Nat) (hq:∀ (j p:Nat),qs[j]?=some p→w.cell? ⟨b,o+j,none⟩=some (.pointer (some ⟨p,0,none⟩))) (hsm:ps.length+qs.length≤1099511627776) :
  Calls Tryz.prog 113 #[.pointer (some ⟨c,0,none⟩),.pointer (some ⟨p,0,none⟩),.slice (some ⟨b,o,none⟩) qs.length mc] w (ZV E c n g lo p k wd f (ps++qs) kv w):=by
 obtain⟨iP,hiP,hz0,hz1,hz2⟩:=info_parts Tryz.infoP;obtain⟨k0,k1,k2,k3,k4⟩:=ho.blk.cells;have hlt:=ho.blk.lt;have hrow:=ho.row;have HR:=hid h;have HO:=hid ho;have hnews:∀ (j:Nat) (u:Value),(GB qs)[j]?=some u→w.cell? ((Addr.mk b o none).add j)=some u:=by
  intro j u hj;have had:(Addr.mk b o none).add j=⟨b,o+j,none⟩:=by
   unfold Addr.add;split
   ·rename_i h;subst h;rfl
   ·rfl
  rw [had];simp only [GB,List.getElem?_map,Option.map_eq_some_iff] at hj;obtain⟨q,hq1,rfl⟩:=hj;exact hq j q hq1
 have hlow:lo≤w.heap.size:=by have:=ho.low;omega
 have HQ:=hid hnews;have HZZ:=hid hz;clear h ho hq hnews hz;go_enter Tryz.func113,Tryz.ntmps113;go_wp2_with (at_builtin;refine wpList_append_own_at _ rfl _ _ 59 rfl lo 51 iP _ 1 8 Tryz.underlying59 hiP hz0 hz1 hz2 rfl (by decide) _ _ _ rfl hrow ⟨b,o,none⟩ qs.length mc (GB qs) rfl (by rw [DJ,Nat.mul_one]) HQ.out (zG qs) (by unfold maxLen;omega) (by omega) hlow ?_);intro v1 w1 hown hgrow _ hat;obtain⟨va,vc,rfl⟩:=xB hown;have hF1:Fr (YD kv) w w1:=Fr.grown hgrow (fun k hk=>by simp [YD,hk]);have hpX:p ∉ YD kv:=by
  have:=HO.out.sep;unfold YD;split
  ·rename_i b' hb';simp;intro e;subst e;exact this hb'
  ·simp
 have hcX:∀ b∈YD kv,c < b:=by
  intro b' hb';unfold YD at hb';split at hb'
  ·rename_i b2 hb2;simp at hb';subst hb';have:=(HO.out.row.lt _ hb2).1;omega
  ·simp at hb'
 have hO1:=HO.out.blk.later hF1 hpX;have hzX:E.zo=none∨E.zb ∉ YD kv:=HZZ.out.imp id (fun h m=>by
  unfold YD at m;split at m
  ·rename_i b2 hb2;simp at m;exact h.2 (m ▸ hb2)
  ·simp at m)
 have hzp:E.zo=none∨E.zb ∉ [p]:=HZZ.out.imp id (fun h m=>h.1 (by simpa using m));have hR1:=HR.out.later hF1 hcX hzX;obtain⟨_,_,_,_,l4⟩:=hO1.cells;have f4:=hO1.free 4;have hpv:(Value.slice va (ps.length+qs.length) vc).ownBlock≠some p:=by
  rcases hat with e|e
  ·rw [e];exact HO.out.sep
  ·rw [e];intro x;cases x;omega
 go_upto_region 2 with fail;have hO2:=hO1.kids (.slice va (ps.length+qs.length) vc);have hF2:Fr [p] w1 (w1.setCell ⟨p,4,none⟩ (.slice va (ps.length+qs.length) vc)):=Fr.set (a:=⟨p,4,none⟩);have hcp:c < p:=by have:=HO.out.low;omega
 have hR2:=hR1.later hF2 (fun k hk=>by simp at hk;omega) hzp;clear hzX;have hrow2:=pD hown hF2 (fun b' hb'=>by simp at hb';subst hb';exact hpv);have hF:=(hF1.weaken (Y:=p::YD kv) (fun k _ hk=>List.mem_cons_of_mem _ hk)).trans (hF2.weaken (fun k _ hk=>by simp at hk;simp [hk]));clear hO1 hR1 l4 f4 hzp hF1 hF2 hown hgrow hat hcX hrow k0 k1 k2 k3 k4;generalize w1.setCell ⟨p,4,none⟩ (.slice va (ps.length+qs.length) vc)=w2 at *;obtain⟨h0,h1,h2,h3,h4⟩:=hR2.cells;obtain⟨l0,l1,l2,l3,l4⟩:=hO2.cells;have f3:=hO2.free 3;have HZ:=hid (And.intro hO2 (And.intro hR2 (And.intro hrow2 (And.intro hF (And.intro hpv hcp)))));clear hO2 hR2 hrow2 hF hpv hcp;go_wp2_with fail;go_ret;obtain⟨hO2,hR2,hrow2,hF,hpv,hcp⟩:=HZ.out;have hF3:Fr [p] w2 (w2.setCell ⟨p,3,none⟩ (.int .i64 (n:Int))):=Fr.set (a:=⟨p,3,none⟩);refine⟨rfl,⟨_,hO2.end_ n,?_,HO.out.low,hpv⟩,hR2.later hF3 (fun k hk=>by simp at hk;omega) (HZZ.out.imp id (fun h m=>h.1 (by simpa using m))),hF.trans (hF3.weaken (fun k _ hk=>by simp at hk;simp [hk]))⟩;have:=pD hrow2 hF3 (fun b' hb'=>by simp at hb';subst hb';exact hpv);simpa [GB] using this
end
section
open Go.RowKit
theorem NA (c i:Nat) (w:World) (v:Value):Fr [c] w (w.setCell ⟨c,i,none⟩ v):=Fr.set (a:=⟨c,i,none⟩)
theorem VE {f:FuncId}{fn:Func} (h:Tryz.prog.funcs[f]?=some fn) (hn:(fn.name== "runtime.NumGoroutine")=false) (hb:fn.body.isNone=false) (args:Array Value) (w:World) :
  Sem.run Tryz.prog (callFunc f args) w=.ok (.enter f args) w:=by
 have hn':fn.name≠ "runtime.NumGoroutine":=by simpa using hn
 have hb':fn.body≠none:=by intro e;rw [e] at hb;cases hb
 unfold callFunc;simp [h,hn',hb',go_sem]
def XJ (φ:Nat→Prop) (E:Ev) (c:Nat) (g:Bool) (r:R Tr) (w0:World) (e:Ending) (w':World):Prop:=(∀ q,e=.returned (.pointer (some ⟨q,0,none⟩))→φ q)∧Ans E c g r w0 e w'
theorem GG {E:Ev}{c n:Nat}{g:Bool}{w:World} (h:Rd E c n g w) (f:FuncId) (first cap:Array Value) (hcf:∀ w1,Sem.run Tryz.prog (callFunc f (first++cap)) w1=.ok (.enter f (first++cap)) w1) (r:R Tr) (φ:Nat→Prop) (wB:World) (hB:Fr [c] wB w) (hcB:c < wB.heap.size)
  (H:∀ w1,Rd E c n false w1→Fr [c] w w1→Calls Tryz.prog f (first++cap) w1 (XJ φ E c false r wB)) :
  Calls Tryz.prog 102 #[.pointer (some ⟨c,0,none⟩),.func (.func f) first cap] w (XJ φ E c g r wB):=by
 obtain⟨h0,h1,h2,h3,h4⟩:=h.cells;have f4:=h.free 4;have hM:=h.headed false;have hF:=NA c 4 w (.bool false);have HH:=hid (H _ hM hF);have HB:=hid (And.intro hB hcB);clear h H hM hF hB hcB;go_enter Tryz.func102,Tryz.ntmps102;go_wp2_with fail;generalize w.setCell ⟨c,4,none⟩ (.bool false)=w1 at *;clear h0 h1 h2 h3 h4 f4 hcf;refine HH.out.mono ?_;rintro e w2 ⟨hq,hA⟩;clear HH;generalize r=r at *;cases r with
 | ok t m =>
  obtain⟨p,rfl,q1,q2,q3⟩:=hA;obtain⟨h0,h1,h2,h3,h4⟩:=q1.cells;have f4:=q1.free 4;have HQ:=hid (And.intro q1 (And.intro q2 (And.intro q3 (hq p rfl))));clear q1 q2 q3 hq;go_wp2_with fail;go_ret;obtain⟨q1,q2,q3,q4⟩:=HQ.out;have hF2:=NA c 4 w2 (.bool g);refine⟨fun q hq=>by cases hq;exact q4,p,rfl,q1.headed g,?_,q3.trans hF2⟩;exact EA.later q2 hF2 (fun k hk=>by simp at hk;subst hk;have:=HB.out.2;omega) (Nat.le_refl _) (by simp)
 | bad k =>
  obtain⟨rfl,q1,q2⟩:=hA;exact⟨rfl,fun q hq=>(by cases hq),rfl,q1,q2⟩
 | out=>exact hA.elim
theorem QO {E:Ev}{c n:Nat}{g:Bool}{w:World} (h:Rd E c n g w) (f:FuncId) (first cap:Array Value) (hcf:∀ w1,Sem.run Tryz.prog (callFunc f (first++cap)) w1=.ok (.enter f (first++cap)) w1) (r:R Tr) (φ:Nat→Prop) (wB:World) (hB:Fr [c] wB w) (hcB:c < wB.heap.size)
  (H:∀ w1,Rd E c n true w1→Fr [c] w w1→Calls Tryz.prog f (first++cap) w1 (XJ φ E c true r wB)) :
  Calls Tryz.prog 248 #[.pointer (some ⟨c,0,none⟩),.func (.func f) first cap] w (XJ φ E c g r wB):=by
 obtain⟨h0,h1,h2,h3,h4⟩:=h.cells;have f4:=h.free 4;have hM:=h.headed true;have hF:=NA c 4 w (.bool true);have HH:=hid (H _ hM hF);have HB:=hid (And.intro hB hcB);clear h H hM hF hB hcB;go_enter Tryz.func248,Tryz.ntmps248;go_wp2_with fail;generalize w.setCell ⟨c,4,none⟩ (.bool true)=w1 at *;clear h0 h1 h2 h3 h4 f4 hcf;refine HH.out.mono ?_;rintro e w2 ⟨hq,hA⟩;clear HH;generalize r=r at *;cases r with
 | ok t m =>
  obtain⟨p,rfl,q1,q2,q3⟩:=hA;obtain⟨h0,h1,h2,h3,h4⟩:=q1.cells;have f4:=q1.free 4;have HQ:=hid (And.intro q1 (And.intro q2 (And.intro q3 (hq p rfl))));clear q1 q2 q3 hq;go_wp2_with fail;go_ret;obtain⟨q1,q2,q3,q4⟩:=HQ.out;have hF2:=NA c 4 w2 (.bool g);refine⟨fun q hq=>by cases hq;exact q4,p,rfl,q1.headed g,?_,q3.trans hF2⟩;exact EA.later q2 hF2 (fun k hk=>by simp at hk;subst hk;have:=HB.out.2;omega) (Nat.le_refl _) (by simp)
 | bad k =>
  obtain⟨rfl,q1,q2⟩:=hA;exact⟨rfl,fun q hq=>(by cases hq),rfl,q1,q2⟩
 | out=>exact hA.elim
theorem Opn.done {w:World}{lo p:Nat}{k:UInt8}{wd:Int}{f t:Nat}{ps:List Nat}{kv:Value} (h:Opn w lo p k wd f t ps kv) {ks:List Tr}{hi:Nat} (hk:iG w lo hi ps ks) (hh:w.heap.size≤hi):EA w lo hi p (.mk k wd f t ks):=by
 have hlen:=fA.len hk;have hb:=h.blk.lt;obtain⟨a,cap,rfl⟩:=xB h.row;refine⟨⟨h.low,by omega⟩,a,cap,ps,?_,?_,hk⟩
 ·rw [← hlen];exact h.blk
 ·by_cases h0:ps=[]
  ·exact .inl h0
  ·right
   have hpos:0 < ps.length:=by
    rcases ps with _|_
    ·exact absurd rfl h0
    ·simp
   obtain⟨g,cap',hv,hg1,hg2⟩:=h.row.form hpos;cases hv;refine⟨g,0,rfl,⟨hg1,by omega⟩,fun j q hj=>?_⟩;have hjl:j < ps.length:=by
    rcases Nat.lt_or_ge j ps.length with h|h
    ·exact h
    ·rw [List.getElem?_eq_none h] at hj;cases hj
   rw [Nat.zero_add,World.ownsRow.cellAt h.row j (by omega)];simp [GB,hj]
end
section
open Go.RowKit
theorem EA.cells {w:World}{lo hi p:Nat}{t:Tr} (h:EA w lo hi p t) :
    w.cell? ⟨p,0,none⟩=some (.int .u8 (t.kind.toNat:Int))∧w.cell? ⟨p,1,none⟩=some (.int .i64 t.word)∧w.cell? ⟨p,2,none⟩=some (.int .i64 (t.fr:Int))∧w.cell? ⟨p,3,none⟩=some (.int .i64 (t.to:Int)) ∧
    ∃ (ka:Option Addr) (cap:Nat) (ps:List Nat),w.cell? ⟨p,4,none⟩=some (.slice ka t.kids.length cap)∧rM w lo hi ka ps∧iG w lo hi ps t.kids:=by
  obtain⟨k,wd,f,t',ks⟩:=t;obtain⟨_,ka,cap,ps,hb,h1,h2⟩:=h;refine⟨?_,?_,?_,?_,ka,cap,ps,?_,h1,h2⟩ <;> simp [World.cell?,hb,Tr.kind,Tr.word,Tr.fr,Tr.to,Tr.kids]
theorem EA.lt {w:World}{lo hi p:Nat}{t:Tr} (h:EA w lo hi p t):lo≤p∧p < hi:=by
  obtain⟨k,wd,f,t',ks⟩:=t;exact h.1
def MQ (E:Ev) (c n:Nat) (g:Bool) (lo:Nat) (t:Tr) (w:World) (e:Ending) (w':World):Prop :=
  ∃ p,e=.returned (.pointer (some ⟨p,0,none⟩))∧Rd E c n g w'∧EA w' lo w'.heap.size p t∧Below w.heap.size w w'
theorem Fr.toBelow {w w':World} (h:Fr [] w w'):Below w.heap.size w w':=⟨h.os,h.tape,h.output,h.size,fun k hk=>h.block k hk (by simp)⟩
theorem Fr.drew {X:List Nat}{w w':World} (h:Fr X w w'):Fr X w w'.drew:=⟨h.os,h.tape,h.output,h.size,h.block⟩
theorem YC.begun {w:World}{p:Nat}{k:UInt8}{wd:Int}{f t:Nat}{kv:Value} (h:YC w p k wd f t kv) (f':Nat):YC (w.setCell ⟨p,2,none⟩ (.int .i64 (f':Int))) p k wd f' t kv:=by
  unfold YC;rw [heap_setCell_same w p 2 _ _ _ h];rfl
theorem kH {w:World}{N j:Nat}{x:Value}{a:Addr}{v:Value} (h:a.block≠N) (hc:w.cell? a=some v):(w.setCell ⟨N,j,none⟩ x).cell? a=some v:=by
  have hb:(w.setCell ⟨N,j,none⟩ x).heap[a.block]?=w.heap[a.block]?:=Below.heap_setCell _ _ _ _ h;rw [← hc];exact World.cell?_of_block hb
theorem IO {α:Type} (l:List α) (h:l≠[]):l[l.length - 1]?=some (l.getLast h):=by
  rw [List.getLast_eq_getElem,List.getElem?_eq_getElem]
theorem iW {E:Ev}{c n:Nat}{g:Bool}{w:World} (h:Rd E c n g w) (k:UInt8) {lo hi:Nat}{ka:Option Addr}{cap:Nat}{ps:List Nat}{ks:List Tr} (hP:rM w lo hi ka ps) (hN:iG w lo hi ps ks) (hhi:hi≤w.heap.size) (hlo:lo≤w.heap.size)
    (hsm:ps.length≤1099511627776) :
    Calls Tryz.prog 111 #[.pointer (some ⟨c,0,none⟩),.int .u8 (k.toNat:Int),.slice ka ps.length cap] w (MQ E c n g lo (xC k ks n) w):=by
  have hlen:=fA.len hN;have HR:=hid h;have HN:=hid (wJ h k);cases ks with
  | nil =>
    have h0:ps=[]:=List.eq_nil_of_length_eq_zero (by simpa using hlen);subst h0;clear hP hN hlen h;go_enter Tryz.func111,Tryz.ntmps111;go_wp2_with fail;refine HN.out.mono ?_;rintro e w1 ⟨p,rfl,a1,a2,a3,a4⟩;have HA:=hid (And.intro a2 (And.intro a3 a4));clear a2 a3 a4;go_wp2_with fail;go_ret;obtain⟨a2,a3,a4⟩:=HA.out;exact⟨p,rfl,a3,EG a2 (by omega) a2.lt,a4⟩
  | cons k0 ks =>
    have hpos:0 < ps.length:=by rw [hlen];simp
    obtain⟨b,o,rfl,⟨hb1,hb2⟩,hc⟩:=hP.resolve_left (fun e=>by rw [e] at hpos;simp at hpos);obtain⟨p0,hp0,hn0⟩:=fA.get 0 k0 hN rfl;obtain⟨p1,hp1,hn1⟩:=fA.get (ps.length - 1) ((k0::ks).getLast (by simp)) hN (by rw [hlen];exact IO _ _);have c0:=hc 0 p0 hp0;have c1:=hc _ p1 hp1;obtain⟨_,_,f0,_,_⟩:=EA.cells hn0;obtain⟨_,_,_,f1,_⟩:=EA.cells hn1;have hT:xC k (k0::ks) n=.mk k (-1) k0.fr ((k0::ks).getLast (by simp)).to (k0::ks):=rfl;generalize ((k0::ks).getLast (by simp)).to=tt at *;have lt0:=EA.lt hn0;have lt1:=EA.lt hn1;obtain⟨m,hm⟩:∃ m,ps.length=m+1:=⟨ps.length - 1,by omega⟩;rw [hm,Nat.add_sub_cancel] at c1;obtain⟨M,hM⟩:∃ M,M=m+1:=⟨_,rfl⟩;rw [← hM] at hm;have H1:=hid (And.intro hP (And.intro hN (And.intro hT (And.intro hlen (And.intro hb1 (And.intro hb2 hm))))));rw [hm];have b0:(0:Int) < (M:Int):=by omega
    have b1:(0:Int)≤(m:Int):=by omega
    have b2:(m:Int) < (M:Int):=by omega
    have b3:(M:Int) - 1=(m:Int):=by omega
    have b5:(m:Int)≤1099511627776:=by omega
    have w1:IntKind.i64.wrap (m:Int)=(m:Int):=by simp [IntKind.wrap,IntKind.bits,IntKind.signed];omega
    have w3:IntKind.i64.wrap ((M:Int) - 1)=(m:Int):=by rw [b3];exact w1
    have b6:m < M:=by omega
    have HMM:=hid hM;clear hM;clear hP hN hT hlen hc hn0 hn1 hp0 hp1 h hm hsm hpos;go_enter Tryz.func111,Tryz.ntmps111;go_wp2_with fail;refine HN.out.mono ?_;rintro e wq ⟨p,rfl,a1,a2,a3,a4⟩;replace c0:=aA a4 c0;replace c1:=aA a4 c1;replace f0:=aA a4 f0;replace f1:=aA a4 f1;obtain⟨l0,l1,l2,l3,l4⟩:=a2.cells;have z2:=a2.free 2;have z3:=a2.free 3;have z4:=a2.free 4;have hb:b≠p:=by omega
    have HA:=hid (And.intro a2 (And.intro a3 a4));clear a2 a3 a4;have hp0:p0≠p:=by omega
    have hp1:p1≠p:=by omega
    rw [Nat.add_zero] at c0;go_wp2_with fail
    go_region_held3 (fun w'=>w'.cell? ⟨b,o,none⟩=some (.pointer (some ⟨p0,0,none⟩))∧w'.cell? ⟨b,o+m,none⟩=some (.pointer (some ⟨p1,0,none⟩))∧w'.cell? ⟨p0,2,none⟩=some (.int .i64 (k0.fr:Int))∧w'.cell? ⟨p1,3,none⟩=some (.int .i64 (tt:Int)))
      (first
        | (refine⟨?_,?_,?_,?_⟩
           all_goals assumption)
        | (go_split_ands
           refine⟨?_,?_,?_,?_⟩
           all_goals exact kH ‹_› ‹_›))
      (first|fail)
    obtain⟨hP,hN,hT,hlen,_,_,hm⟩:=H1.out;obtain⟨a2,a3,a4⟩:=HA.out;have o3:YC (((wq.setCell ⟨p,2,none⟩ (.int .i64 (k0.fr:Int))).setCell ⟨p,3,none⟩ (.int .i64 (tt:Int))).setCell ⟨p,4,none⟩ (.slice (some ⟨b,o,none⟩) M cap)).drew p k (-1) k0.fr tt (.slice (some ⟨b,o,none⟩) M cap):=((a2.begun k0.fr).end_ tt).kids _;have hF:Fr [p] wq (((wq.setCell ⟨p,2,none⟩ (.int .i64 (k0.fr:Int))).setCell ⟨p,3,none⟩ (.int .i64 (tt:Int))).setCell ⟨p,4,none⟩ (.slice (some ⟨b,o,none⟩) M cap)).drew :=
      (((NA p 2 wq _).trans (NA p 3 _ _)).trans (NA p 4 _ _)).drew
    have hcp:c < p:=by have:=HR.out.lt;omega
    have hzl:=HR.out.zlt;have hR:=a3.later hF (fun x hx=>by simp at hx;omega) (hzl.imp id (fun h m=>by simp at m;omega));have hB:Fr [] w (((wq.setCell ⟨p,2,none⟩ (.int .i64 (k0.fr:Int))).setCell ⟨p,3,none⟩ (.int .i64 (tt:Int))).setCell ⟨p,4,none⟩ (.slice (some ⟨b,o,none⟩) M cap)).drew :=
      (Fr.below (X:=[]) a4).trans' hF (fun i hi=>.inr (by simp at hi;omega))
    clear c0 c1 f0 f1 l0 l1 l2 l3 l4 z2 z3 z4 a2 a3 hF;generalize (((wq.setCell ⟨p,2,none⟩ (.int .i64 (k0.fr:Int))).setCell ⟨p,3,none⟩ (.int .i64 (tt:Int))).setCell ⟨p,4,none⟩ (.slice (some ⟨b,o,none⟩) M cap)).drew=wF at *;have hfin:MQ E c n g lo (xC k (k0::ks) n) w (.returned (.pointer (some ⟨p,0,none⟩))) wF:=by
      refine⟨p,rfl,hR,?_,hB.toBelow⟩;rw [hT];have hkeep:∀ x,lo≤x→x < hi→wF.heap[x]?=w.heap[x]?:=fun x _ hx=>hB.block x (by omega) (by simp)
      have hpl:=o3.lt;have hsz:=hB.size;refine⟨⟨by omega,hpl⟩,some ⟨b,o,none⟩,cap,ps,?_,rM.kept hP hkeep (Nat.le_refl _) (by omega),iG.kept hkeep (Nat.le_refl _) (by omega) ps _ hN⟩;rw [← hlen,hm];exact o3
    have HFin:=hid hfin;clear hfin hR hB o3 hP hN hT hlen hm a4;go_wp2_with fail;go_ret;exact HFin.out
end
section
open Go.RowKit
theorem rM.of_own {w:World}{lo hi:Nat}{a:Option Addr}{cap:Nat}{ps:List Nat} (h:w.ownsRow lo 51 1 (.slice a ps.length cap) ps.length (GB ps)) (hh:w.heap.size≤hi):rM w lo hi a ps:=by
 by_cases h0:ps=[]
 ·exact .inl h0
 ·right
  have hpos:0 < ps.length:=by
   rcases ps with _|_
   ·exact absurd rfl h0
   ·simp
  obtain⟨g,cap',hv,hg1,hg2⟩:=h.form hpos;cases hv;refine⟨g,0,rfl,⟨hg1,by omega⟩,fun j q hj=>?_⟩;have hjl:j < ps.length:=by
   rcases Nat.lt_or_ge j ps.length with h|h
   ·exact h
   ·rw [List.getElem?_eq_none h] at hj;cases hj
  rw [Nat.zero_add,World.ownsRow.cellAt h j (by omega)];simp [GB,hj]
def NI (w0:World) (v:Value) (w:World):Nat→Prop:=fun b=>w0.heap.size≤b∧b < w.heap.size∧v.ownBlock≠some b
def Row (w0:World) (v:Value) (ps:List Nat) (ts:List Tr) (w:World):Prop :=
 w.ownsRow w0.heap.size 51 1 v ps.length (GB ps)∧fA w (NI w0 v w) ps ts
theorem Row.laterX {w0:World}{v:Value}{ps:List Nat}{ts:List Tr}{X:List Nat}{w w':World} (h:Row w0 v ps ts w) (hf:Fr X w w') (hX:∀ x∈X,x < w0.heap.size):Row w0 v ps ts w':=by
 refine⟨pD h.1 hf (fun b hb e=>?_),fA.kept (fun b hb=>hf.block b hb.2.1 (fun m=>by have:=hb.1;have:=hX b m;omega)) (fun b hb=>⟨hb.1,Nat.lt_of_lt_of_le hb.2.1 hf.size,hb.2.2⟩) ps ts h.2⟩;have:=(h.1.lt _ e).1;have:=hX b hb;omega
theorem Row.later {w0:World}{v:Value}{ps:List Nat}{ts:List Tr}{c:Nat}{w w':World} (h:Row w0 v ps ts w) (hf:Fr [c] w w') (hc:c < w0.heap.size) (_hw:w0.heap.size≤w.heap.size):Row w0 v ps ts w':=by
 refine⟨pD h.1 hf (fun b hb e=>?_),fA.kept (fun b hb=>hf.block b hb.2.1 (by have:=hb.1;simp;omega)) (fun b hb=>⟨hb.1,Nat.lt_of_lt_of_le hb.2.1 hf.size,hb.2.2⟩) ps ts h.2⟩;simp at hb;subst hb;have:=(h.1.lt _ e).1;omega
theorem Row.more {w0 w3 w5:World}{v v5:Value}{ps:List Nat}{ts:List Tr}{p lo2:Nat}{t:Tr} (h:Row w0 v ps ts w3) (hn:EA w3 lo2 w3.heap.size p t) (hlo:w0.heap.size≤lo2) (hv:∀ b,v.ownBlock=some b→b < lo2)
  (hown:w5.ownsRow w0.heap.size 51 1 v5 (ps.length+1) (GB ps++GB [p])) (hk:∀ b,b < w3.heap.size→v.ownBlock≠some b→w5.heap[b]?=w3.heap[b]?) (hs:w3.heap.size≤w5.heap.size)
  (hat:v5.ownBlock=v.ownBlock∨∃ b,v5.ownBlock=some b∧w3.heap.size≤b):Row w0 v5 (ps++[p]) (ts++[t]) w5:=by
 have h5:∀ b,b < w3.heap.size→v.ownBlock≠some b→v5.ownBlock≠some b:=by
  intro b hb hne e;rcases hat with x|⟨b',x,hx⟩
  ·exact hne (x ▸ e)
  ·rw [x] at e;cases e;omega
 refine⟨by rw [List.length_append,show GB (ps++[p])=GB ps++GB [p] from by simp [GB]];exact hown,fA.append ?_ ⟨?_,trivial⟩⟩
 ·exact fA.kept (fun b hb=>hk b hb.2.1 hb.2.2) (fun b hb=>⟨hb.1,Nat.lt_of_lt_of_le hb.2.1 hs,h5 b hb.2.1 hb.2.2⟩) ps ts h.2
 ·have hb':∀ b,within lo2 w3.heap.size b→v.ownBlock≠some b:=fun b hb e=>by have:=hv b e;have:=hb.1;omega
  exact nA.kept (fun b hb=>hk b hb.2 (hb' b hb)) (fun b hb=>⟨Nat.le_trans hlo hb.1,Nat.lt_of_lt_of_le hb.2 hs,h5 b hb.2 (hb' b hb)⟩) p t hn
end
end Go.Proofs.YtfmpphplbdojbaaGreatDoor
