import Derived.Test.YtcjmpafkcmlhbaaGreatDoorQAG
import Derived.Test.YtcjmpafkcmlhbaaGreatDoorQAA
import Derived.Maps.AppendAt
namespace Go.Proofs.YtcjmpafkcmlhbaaGreatDoor
open Lib(hid)
set_option linter.all false
set_option maxHeartbeats 40000000
set_option maxRecDepth 100000
section
open Go.RowKit
theorem Rd.below {E:Ev}{c n:Nat}{g:Bool}{w w':World} (h:Rd E c n g w) (hb:Below w.heap.size w w'):Rd E c n g w':=h.later (Fr.below (X:=[]) hb) (fun k m=>by cases m) (.inr (by simp))
theorem ZD (E:Ev) (c:Nat) (i:Int) (w:World) (h1:w.cell? ⟨c,1,none⟩=some (.slice E.ta E.l.length E.tcap)) (hl:Lie E c w) :
  Calls Tryz.prog 187 #[.pointer (some ⟨c,0,none⟩),.int .i64 i] w fun e w'=>e=.returned (.int .u8 ((E.kind i).toNat:Int))∧Below w.heap.size w w':=by
 by_cases hi:i < 0
 ·have d0:decide (i < 0)=true:=decide_eq_true hi;have hw:E.kind i=0:=by unfold Env.kind;rw [if_pos hi]
  rw [hw];clear hi hw hl;go_enter Tryz.func187,Tryz.ntmps187;go_wp2_with fail
  all_goals (go_ret;exact⟨rfl,by first|exact Below.refl _ _|exact (Below.refl _ _).drew⟩)
 ·have d0:decide (i < 0)=false:=decide_eq_false hi;obtain⟨n,rfl⟩:=Int.eq_ofNat_of_zero_le (Int.not_lt.1 hi);by_cases hn:n < E.l.length
  ·have d1:decide ((E.l.length:Int)≤(n:Int))=false:=decide_eq_false (by omega);have ht:E.l[n]?=some (E.l[n]):=List.getElem?_eq_getElem hn;have hw:E.kind (n:Int)=E.l[n].kind:=by
    unfold Env.kind;rw [if_neg hi];simp only [Int.toNat_natCast,ht]
   obtain⟨b,o,hta,_,c0,_,_⟩:=hl.toks n _ ht;rw [hw];generalize E.l[n]=t at *;rw [hta] at h1;have b0:(0:Int)≤(n:Int):=by omega
   have b1:(n:Int) < (E.l.length:Int):=by omega
   clear hl ht hta hw;go_enter Tryz.func187,Tryz.ntmps187;go_wp2_with fail;go_ret;exact⟨rfl,Below.refl _ _⟩
  ·have d1:decide ((E.l.length:Int)≤(n:Int))=true:=decide_eq_true (by omega);have hw:E.kind (n:Int)=0:=by unfold Env.kind;rw [if_neg hi];simp only [Int.toNat_natCast,List.getElem?_eq_none (Nat.le_of_not_lt hn)]
   rw [hw];clear hw hl;go_enter Tryz.func187,Tryz.ntmps187;go_wp2_with fail
   all_goals (go_ret;exact⟨rfl,by first|exact Below.refl _ _|exact (Below.refl _ _).drew⟩)
theorem pE {E:Ev}{c n:Nat}{g:Bool}{w:World} (h:Rd E c n g w) :
  Calls Tryz.prog 112 #[.pointer (some ⟨c,0,none⟩)] w fun e w'=>e=.returned (.string ⟨(E.word n).toArray⟩)∧Below w.heap.size w w':=by
 obtain⟨h0,h1,h2,h3,h4⟩:=h.cells;have HW:=hid (BH E c (n:Int) w h0 h1 h.lie);clear h;go_enter Tryz.func112,Tryz.ntmps112;go_wp2_with fail;refine HW.out.mono ?_;rintro e w1 ⟨rfl,hb⟩;go_wp2_with fail;go_ret;exact⟨rfl,hb⟩
theorem tT {E:Ev}{c n:Nat}{g:Bool}{w:World} (h:Rd E c n g w) :
  Calls Tryz.prog 83 #[.pointer (some ⟨c,0,none⟩)] w fun e w'=>e=.returned (.bool (E.ended n))∧Below w.heap.size w w':=by
 obtain⟨h0,h1,h2,h3,h4⟩:=h.cells;have hd:((n:Int)==(E.l.length:Int))=E.ended n:=by
  unfold Env.ended;rw [Bool.eq_iff_iff];simp;omega
 have HD:=hid hd;clear h hd;go_enter Tryz.func83,Tryz.ntmps83;go_wp2_with fail;go_region;go_wp2_with fail;go_ret;exact⟨by rw [← HD.out];rfl,(Below.refl _ _).drew⟩
theorem eK {E:Ev}{c n:Nat}{g:Bool}{w:World} (h:Rd E c n g w) (i:Int) :
  Calls Tryz.prog 142 #[.pointer (some ⟨c,0,none⟩),.int .i64 i] w fun e w'=>e=.returned (.bool (E.named i))∧Below w.heap.size w w':=by
 obtain⟨h0,h1,h2,h3,h4⟩:=h.cells;have HK:=hid (ZD E c i w h1 h.lie);have hd:(((E.kind i).toNat:Int)==1)=E.named i:=by
  unfold Env.named;rw [Bool.eq_iff_iff,beq_iff_eq,beq_iff_eq,← UInt8.toNat_inj]
  show _↔(E.kind i).toNat=1
  omega
 have HD:=hid hd;clear h hd;go_enter Tryz.func142,Tryz.ntmps142;go_wp2_with fail;refine HK.out.mono ?_;rintro e w1 ⟨rfl,hb⟩;go_wp2_with fail;go_ret;exact⟨by rw [← HD.out];rfl,hb⟩
theorem VH {E:Ev}{c n:Nat}{g:Bool}{w:World} (h:Rd E c n g w) :
  Calls Tryz.prog 84 #[.pointer (some ⟨c,0,none⟩)] w fun e w'=>e=.panicked [{ v:=.iface 108 (.int .i64 (n:Int)),recovered:=false }]∧w'=w:=by
 obtain⟨h0,h1,h2,h3,h4⟩:=h.cells;clear h;go_enter Tryz.func84,Tryz.ntmps84;go_wp2_with fail;exact⟨rfl,rfl,rfl⟩
theorem lA {w w':World} (c:Nat) (h:Below w.heap.size w w'):Fr [c] w w':=Fr.below h
theorem NH {E:Ev}{c n:Nat}{g:Bool}{w:World} (h:Rd E c n g w) (x:UInt8) (ws:List UInt8) :
  Calls Tryz.prog 110 #[.pointer (some ⟨c,0,none⟩),.string ⟨(x::ws).toArray⟩] w (Did E c g (want E.toEnv (x::ws) n) w):=by
 have HN:=hid (pE h);have HR:=hid h;have hs:(n:Int)≤1099511627776:=by have:=h.at_;have:=h.lie.small;omega
 cases hw:E.is n (x::ws) with
 | true =>
  have hlt:=gA hw;have hd:(E.word n==x::ws)=true:=hw;have hr:want E.toEnv (x::ws) n=.ok () (n+1):=by unfold want;rw [if_pos hw]
  rw [hr];have HL:=hid hlt;clear h hw hr hlt;go_enter Tryz.func110,Tryz.ntmps110;go_wp2_with fail;refine HN.out.mono ?_;rintro e w1 ⟨rfl,hb⟩;have hR1:=HR.out.below hb;obtain⟨h0,h1,h2,h3,h4⟩:=hR1.cells;have f3:=hR1.free 3;have HR1:=hid hR1;clear hR1;go_wp2_with fail;go_end0;exact⟨rfl,by simpa using HR1.out.moved (n+1) (by have:=HL.out;omega),(lA c hb).trans (by simpa using Fr.set (a:=⟨c,3,none⟩))⟩
 | false =>
  have hd:(E.word n==x::ws)=false:=hw;have hr:want E.toEnv (x::ws) n=.bad n:=by unfold want;rw [if_neg (by rw [hw];decide)]
  rw [hr];clear h hw hr;go_enter Tryz.func110,Tryz.ntmps110;go_wp2_with fail;refine HN.out.mono ?_;rintro e w1 ⟨rfl,hb⟩;have hR1:=HR.out.below hb;have HF:=hid (VH hR1);have HR1:=hid hR1;clear hR1;go_wp2_with fail;refine HF.out.mono ?_;rintro e w2 ⟨rfl,rfl⟩;exact⟨rfl,rfl,⟨g,HR1.out⟩,lA c hb⟩
def May (E:Ev) (c:Nat) (g:Bool) (ws:List UInt8) (n:Nat) (w:World) (e:Ending) (w':World):Prop :=
 e=.returned (.bool (E.is n ws))∧Rd E c (PB E.toEnv ws n) g w'∧Fr [c] w w'
theorem aK {E:Ev}{c n:Nat}{g:Bool}{w:World} (h:Rd E c n g w) (x:UInt8) (ws:List UInt8) :
  Calls Tryz.prog 82 #[.pointer (some ⟨c,0,none⟩),.string ⟨(x::ws).toArray⟩] w (May E c g (x::ws) n w):=by
 have HN:=hid (pE h);have HR:=hid h;have hs:(n:Int)≤1099511627776:=by have:=h.at_;have:=h.lie.small;omega
 cases hw:E.is n (x::ws) with
 | true =>
  have hlt:=gA hw;have hd:(E.word n==x::ws)=true:=hw;have hr:PB E.toEnv (x::ws) n=n+1:=by unfold PB;rw [if_pos hw]
  have HL:=hid (And.intro hlt (And.intro hr hw));clear h hw hr hlt;go_enter Tryz.func82,Tryz.ntmps82;go_wp2_with fail;refine HN.out.mono ?_;rintro e w1 ⟨rfl,hb⟩;have hR1:=HR.out.below hb;obtain⟨h0,h1,h2,h3,h4⟩:=hR1.cells;have f3:=hR1.free 3;have HR1:=hid hR1;clear hR1;go_wp2_with fail;go_ret;exact⟨by rw [HL.out.2.2];rfl,by rw [HL.out.2.1];simpa using HR1.out.moved (n+1) (by have:=HL.out.1;omega),(lA c hb).trans (by simpa using Fr.set (a:=⟨c,3,none⟩))⟩
 | false =>
  have hd:(E.word n==x::ws)=false:=hw;have hr:PB E.toEnv (x::ws) n=n:=by unfold PB;rw [if_neg (by rw [hw];decide)]
  have HL:=hid (And.intro hr hw);clear h hw hr;go_enter Tryz.func82,Tryz.ntmps82;go_wp2_with fail;refine HN.out.mono ?_;rintro e w1 ⟨rfl,hb⟩;go_wp2_with fail;go_ret;exact⟨by rw [HL.out.2];rfl,by rw [HL.out.1];exact HR.out.below hb,lA c hb⟩
def New (E:Ev) (c n:Nat) (g:Bool) (k:UInt8) (wd:Int) (f t:Nat) (w:World) (e:Ending) (w':World):Prop :=
 ∃ p,e=.returned (.pointer (some ⟨p,0,none⟩))∧w.heap.size≤p∧YC w' p k wd f t (.slice none 0 0)∧Rd E c n g w'∧Below w.heap.size w w'
theorem wJ {E:Ev}{c n:Nat}{g:Bool}{w:World} (h:Rd E c n g w) (k:UInt8) :
  Calls Tryz.prog 152 #[.pointer (some ⟨c,0,none⟩),.int .u8 (k.toNat:Int)] w (New E c n g k (-1) n n w):=by
 obtain⟨h0,h1,h2,h3,h4⟩:=h.cells;have HR:=hid h;clear h;go_enter Tryz.func152,Tryz.ntmps152;go_wp2_with fail;go_region
 all_goals (go_wp2_with fail)
 all_goals go_ret
 have hB:=((Below.refl w.heap.size w).alloc (Nat.le_refl _) (Obj.cells #[.int .u8 (k.toNat:Int),.int .i64 (-1),.int .i64 (n:Int),.int .i64 (n:Int),.slice none 0 0] 57)).drew;exact⟨w.heap.size,rfl,Nat.le_refl _,heap_alloc_new w _,HR.out.below hB,hB⟩
theorem uP {E:Ev}{c n:Nat}{g:Bool}{w:World} (h:Rd E c n g w) (k:UInt8) :
  Calls Tryz.prog 109 #[.pointer (some ⟨c,0,none⟩),.int .u8 (k.toNat:Int)] w (New E c n g k (-1) n 0 w):=by
 obtain⟨h0,h1,h2,h3,h4⟩:=h.cells;have HR:=hid h;clear h;go_enter Tryz.func109,Tryz.ntmps109;go_wp2_with fail;go_ret;have hB:=(Below.refl w.heap.size w).alloc (Nat.le_refl _) (Obj.cells #[.int .u8 (k.toNat:Int),.int .i64 (-1),.int .i64 (n:Int),.int .i64 0,.slice none 0 0] 57);exact⟨w.heap.size,rfl,Nat.le_refl _,heap_alloc_new w _,HR.out.below hB,hB⟩
theorem EG {w:World}{p:Nat}{k:UInt8}{wd:Int}{f t lo hi:Nat} (h:YC w p k wd f t (.slice none 0 0)) (h1:lo≤p) (h2:p < hi):EA w lo hi p (.mk k wd f t []) :=
 ⟨⟨h1,h2⟩,none,0,[],h,.inl rfl,trivial⟩
theorem IL {E:Ev}{c n:Nat}{g:Bool}{w:World} (h:Rd E c n g w) (k:UInt8) (ok:Bool) (hok:ok=true→n < E.l.length) :
  Calls Tryz.prog 154 #[.pointer (some ⟨c,0,none⟩),.int .u8 (k.toNat:Int),.bool ok] w (Ans E c g (leaf k ok n) w):=by
 have HR:=hid h;have hs:(n:Int)≤1099511627776:=by have:=h.at_;have:=h.lie.small;omega
 cases ok with
 | true =>
  have hlt:=hok rfl;have f3:=h.free 3;obtain⟨h0,h1,h2,h3,h4⟩:=h.cells;have HL:=hid hlt;clear h hok hlt;have hM:=HR.out.moved (n+1) (by have:=HL.out;omega);obtain⟨m0,m1,m2,m3,m4⟩:=hM.cells;have hF:Fr [c] w (w.setCell ⟨c,3,none⟩ (.int .i64 ((n+1:Nat):Int))):=Fr.set (a:=⟨c,3,none⟩);have HM:=hid (And.intro hM hF);clear hM hF;rw [show ((n+1:Nat):Int)=(n:Int)+1 from by omega] at m0 m1 m2 m3 m4 HM;go_enter Tryz.func154,Tryz.ntmps154;go_wp2_with fail;generalize w.setCell ⟨c,3,none⟩ (.int .i64 ((n:Int)+1))=w1 at *;have hn1:(n:Int)+1 - 1=n:=by omega
  clear h0 h1 h2 h3 h4 f3 m0 m1 m2 m4;go_region
  all_goals (go_wp2_with fail)
  all_goals go_ret
  have hB:=((Below.refl w1.heap.size w1).alloc (Nat.le_refl _) (Obj.cells #[.int .u8 (k.toNat:Int),.int .i64 (n:Int),.int .i64 (n:Int),.int .i64 ((n:Int)+1),.slice none 0 0] 57)).drew;have hO:YC (w1.alloc (Obj.cells #[.int .u8 (k.toNat:Int),.int .i64 (n:Int),.int .i64 (n:Int),.int .i64 ((n:Int)+1),.slice none 0 0] 57)).drew w1.heap.size k n n (n+1) (.slice none 0 0):=heap_alloc_new w1 _;exact⟨w1.heap.size,rfl,HM.out.1.below hB,EG hO HM.out.2.size (by simp),HM.out.2.trans (lA c hB)⟩
 | false =>
  have HF:=hid (VH h);clear h hok;go_enter Tryz.func154,Tryz.ntmps154;go_wp2_with fail;refine HF.out.mono ?_;rintro e w2 ⟨rfl,rfl⟩;exact⟨rfl,rfl,⟨g,HR.out⟩,Fr.refl _ _⟩
theorem eW {E:Env}{n:Nat} (h:E.named n=true):n < E.l.length:=by
 apply Decidable.byContradiction;intro hn;rw [pI (by omega)] at h;cases h
theorem OT {E:Env}{n:Nat} (h:E.quoted n=true):n < E.l.length:=by
 apply Decidable.byContradiction;intro hn;rw [Env.quoted,FG (by omega)] at h;cases h
theorem Ans.behind {E:Ev}{c:Nat}{g:Bool}{r:R Tr}{w w1:World}{e:Ending}{w':World} (h:Ans E c g r w1 e w') (hf:Fr [c] w w1):Ans E c g r w e w':=by
 unfold Ans at h ⊢;cases r with
 | ok t n =>
  obtain⟨p,h1,h2,h3,h4⟩:=h;exact⟨p,h1,h2,EA.kept (fun _ _ _=>rfl) hf.size (Nat.le_refl _) p t h3,hf.trans h4⟩
 | bad k=>exact⟨h.1,h.2.1,hf.trans h.2.2⟩
 | out=>exact h
theorem VI {E:Ev}{c n:Nat}{g:Bool}{w:World} (h:Rd E c n g w) (i:Int) :
  Calls Tryz.prog 216 #[.pointer (some ⟨c,0,none⟩),.int .i64 i] w fun e w'=>e=.returned (.bool (E.quoted i))∧Below w.heap.size w w':=by
 obtain⟨h0,h1,h2,h3,h4⟩:=h.cells;have HK:=hid (ZD E c i w h1 h.lie);have hd:(((E.kind i).toNat:Int)==7)=E.quoted i:=by
  unfold Env.quoted;rw [Bool.eq_iff_iff,beq_iff_eq,beq_iff_eq,← UInt8.toNat_inj]
  show _↔(E.kind i).toNat=7
  omega
 have HD:=hid hd;clear h hd;go_enter Tryz.func216,Tryz.ntmps216;go_wp2_with fail;refine HK.out.mono ?_;rintro e w1 ⟨rfl,hb⟩;go_wp2_with fail;go_ret;exact⟨by rw [← HD.out];rfl,hb⟩
theorem yJ {E:Ev}{c n:Nat}{g:Bool}{w:World} (h:Rd E c n g w) :
  Calls Tryz.prog 111 #[.pointer (some ⟨c,0,none⟩)] w (Ans E c g (LC E.toEnv n) w):=by
 obtain⟨h0,h1,h2,h3,h4⟩:=h.cells;have HR:=hid h;have HN:=hid (eK h (n:Int));clear h h0 h1 h2 h4;go_enter Tryz.func111,Tryz.ntmps111;go_wp2_with fail;refine HN.out.mono ?_;rintro e w1 ⟨rfl,hb⟩;have HL:=hid (IL (HR.out.below hb) 26 (E.named n) (fun h=>eW h));generalize hx:E.named (n:Int)=x at HL ⊢;go_wp2_with fail;refine HL.out.mono ?_;rintro e w2 hA;have hA2:Ans E c g (LC E.toEnv n) w e w2:=by
  have:=hA.behind (lA c hb);rw [← hx] at this;exact this
 clear hA HL HN HR h3 hb hx;generalize LC E.toEnv n=r at *;cases r with
 | ok t m =>
  obtain⟨p,rfl,q1,q2,q3⟩:=hA2;go_wp2_with fail;go_ret;exact⟨p,rfl,q1,q2,q3⟩
 | bad k =>
  obtain⟨rfl,q1,q2⟩:=hA2;exact⟨rfl,rfl,q1,q2⟩
 | out=>exact hA2.elim
theorem FN {E:Ev}{c n:Nat}{g:Bool}{w:World} (h:Rd E c n g w) :
  Calls Tryz.prog 198 #[.pointer (some ⟨c,0,none⟩)] w (Ans E c g (TH E.toEnv n) w):=by
 obtain⟨h0,h1,h2,h3,h4⟩:=h.cells;have HR:=hid h;have HN:=hid (VI h (n:Int));clear h h0 h1 h2 h4;go_enter Tryz.func198,Tryz.ntmps198;go_wp2_with fail;refine HN.out.mono ?_;rintro e w1 ⟨rfl,hb⟩;have HL:=hid (IL (HR.out.below hb) 27 (E.quoted n) (fun h=>OT h));generalize hx:E.quoted (n:Int)=x at HL ⊢;go_wp2_with fail;refine HL.out.mono ?_;rintro e w2 hA;have hA2:Ans E c g (TH E.toEnv n) w e w2:=by
  have:=hA.behind (lA c hb);rw [← hx] at this;exact this
 clear hA HL HN HR h3 hb hx;generalize TH E.toEnv n=r at *;cases r with
 | ok t m =>
  obtain⟨p,rfl,q1,q2,q3⟩:=hA2;go_wp2_with fail;go_ret;exact⟨p,rfl,q1,q2,q3⟩
 | bad k =>
  obtain⟨rfl,q1,q2⟩:=hA2;exact⟨rfl,rfl,q1,q2⟩
 | out=>exact hA2.elim
end
section
open Go.RowKit
def GB (ps:List Nat):List Value:=ps.map fun (p:Nat)=>Value.pointer (some ⟨p,0,none⟩)
theorem DJ (ps:List Nat):(GB ps).length=ps.length:=by simp [GB]
theorem zG (ps:List Nat):∀ u∈GB ps,u.oneCell'=true:=by
 intro u hu;simp only [GB,List.mem_map] at hu;obtain⟨p,_,rfl⟩:=hu
 rfl
theorem Tryz.infoP:(Tryz.prog.info? 47).map (fun i=>(i.zero,i.size,i.bytes))=some (some (.pointer none),1,8):=by kernel_rfl
def eV (w:World) (ka:Option Addr) (qs:List Nat):Prop:=qs=[]∨∃ b o,ka=some ⟨b,o,none⟩∧∀ (j p:Nat),qs[j]?=some p→w.cell? ⟨b,o+j,none⟩=some (.pointer (some ⟨p,0,none⟩))
structure Opn (w:World) (lo p:Nat) (k:UInt8) (wd:Int) (f t:Nat) (ps:List Nat) (kv:Value):Prop where
 blk:YC w p k wd f t kv
 row:w.ownsRow lo 47 1 kv ps.length (GB ps)
 low:lo≤p
 sep:kv.ownBlock≠some p
theorem YC.cells {w:World}{p:Nat}{k:UInt8}{wd:Int}{f t:Nat}{kv:Value} (h:YC w p k wd f t kv) :
  w.cell? ⟨p,0,none⟩=some (.int .u8 (k.toNat:Int))∧w.cell? ⟨p,1,none⟩=some (.int .i64 wd)∧w.cell? ⟨p,2,none⟩=some (.int .i64 (f:Int))∧w.cell? ⟨p,3,none⟩=some (.int .i64 (t:Int))∧w.cell? ⟨p,4,none⟩=some kv:=by
 have hb:w.heap[p]?=_:=h;refine⟨?_,?_,?_,?_,?_⟩ <;> simp [World.cell?,hb]
theorem YC.free {w:World}{p:Nat}{k:UInt8}{wd:Int}{f t:Nat}{kv:Value} (h:YC w p k wd f t kv) (i:Nat):w.frozen? ⟨p,i,none⟩=false:=by
 have hb:w.heap[p]?=_:=h;simp [World.frozen?,hb]
theorem YC.lt {w:World}{p:Nat}{k:UInt8}{wd:Int}{f t:Nat}{kv:Value} (h:YC w p k wd f t kv):p < w.heap.size:=by
 have hb:w.heap[p]?=_:=h;rcases Nat.lt_or_ge p w.heap.size with h|h
 ·exact h
 ·simp [Array.getElem?_eq_none h] at hb
theorem YC.later {w w':World}{p:Nat}{k:UInt8}{wd:Int}{f t:Nat}{kv:Value}{X:List Nat} (h:YC w p k wd f t kv) (hf:Fr X w w') (hX:p ∉ X):YC w' p k wd f t kv:=hf.at_ hX h
theorem YC.kids {w:World}{p:Nat}{k:UInt8}{wd:Int}{f t:Nat}{kv:Value} (h:YC w p k wd f t kv) (kv':Value):YC (w.setCell ⟨p,4,none⟩ kv') p k wd f t kv':=by
 unfold YC;rw [heap_setCell_same w p 4 _ _ _ h];rfl
theorem YC.end_ {w:World}{p:Nat}{k:UInt8}{wd:Int}{f t:Nat}{kv:Value} (h:YC w p k wd f t kv) (t':Nat):YC (w.setCell ⟨p,3,none⟩ (.int .i64 (t':Int))) p k wd f t' kv:=by
 unfold YC;rw [heap_setCell_same w p 3 _ _ _ h];rfl
theorem YC.named_ {w:World}{p:Nat}{k:UInt8}{wd:Int}{f t:Nat}{kv:Value} (h:YC w p k wd f t kv) (wd':Int):YC (w.setCell ⟨p,1,none⟩ (.int .i64 wd')) p k wd' f t kv:=by
 unfold YC;rw [heap_setCell_same w p 1 _ _ _ h];rfl
theorem YC.kinded {w:World}{p:Nat}{k:UInt8}{wd:Int}{f t:Nat}{kv:Value} (h:YC w p k wd f t kv) (k':UInt8):YC (w.setCell ⟨p,0,none⟩ (.int .u8 (k'.toNat:Int))) p k' wd f t kv:=by
 unfold YC;rw [heap_setCell_same w p 0 _ _ _ h];rfl
theorem xB {w:World}{base:Nat}{e:TypeId}{size:Nat}{v:Value}{n:Nat}{xs:List Value} (h:w.ownsRow base e size v n xs):∃ a cap,v=.slice a n cap:=by
 rcases h.2 with ⟨rfl,rfl⟩|⟨g,cap,cur,rfl,_⟩
 ·exact⟨_,_,rfl⟩
 ·exact⟨_,_,rfl⟩
theorem pD {w w':World}{X:List Nat}{lo:Nat}{kv:Value}{n:Nat}{xs:List Value}{e:TypeId} (h:w.ownsRow lo e 1 kv n xs) (hf:Fr X w w') (hX:∀ b∈X,kv.ownBlock≠some b):w'.ownsRow lo e 1 kv n xs:=by
 rcases h.2 with h0|⟨g,cap,cur,hv,hg,hh,hr⟩
 ·exact⟨h.1,.inl h0⟩
 ·refine⟨h.1,.inr ⟨g,cap,cur,hv,hg,?_,hr⟩⟩;exact hf.at_ (fun m=>hX g m (by rw [hv];rfl)) hh
def YD (kv:Value):List Nat:=match kv.ownBlock with|some b=>[b]|none=>[]
def ZV (E:Ev) (c n:Nat) (g:Bool) (lo p:Nat) (k:UInt8) (wd:Int) (f:Nat) (ps:List Nat) (kv:Value) (w:World) (e:Ending) (w':World):Prop :=
 e=.returned (.pointer (some ⟨p,0,none⟩))∧(∃ kv',Opn w' lo p k wd f n ps kv')∧Rd E c n g w'∧Fr (p::YD kv) w w'
theorem rN {E:Ev}{c n:Nat}{g:Bool}{w:World} (h:Rd E c n g w) {lo p:Nat}{k:UInt8}{wd:Int}{f t:Nat}{ps:List Nat}{kv:Value} (ho:Opn w lo p k wd f t ps kv) (hlo:c < lo) (hz:E.zo=none∨(E.zb≠p∧kv.ownBlock≠some E.zb))
  (b o:Nat) (qs:List Nat) (mc:Nat) (hq:∀ (j p:Nat),qs[j]?=some p→w.cell? ⟨b,o+j,none⟩=some (.pointer (some ⟨p,0,none⟩))) (hsm:ps.length+qs.length≤1099511627776) :
  Calls Tryz.prog 116 #[.pointer (some ⟨c,0,none⟩),.pointer (some ⟨p,0,none⟩),.slice (some ⟨b,o,none⟩) qs.length mc] w (ZV E c n g lo p k wd f (ps++qs) kv w):=by
 obtain⟨iP,hiP,hz0,hz1,hz2⟩:=info_parts Tryz.infoP;obtain⟨k0,k1,k2,k3,k4⟩:=ho.blk.cells;have hlt:=ho.blk.lt;have hrow:=ho.row;have HR:=hid h;have HO:=hid ho;have hnews:∀ (j:Nat) (u:Value),(GB qs)[j]?=some u→w.cell? ((Addr.mk b o none).add j)=some u:=by
  intro j u hj;have had:(Addr.mk b o none).add j=⟨b,o+j,none⟩:=by
   unfold Addr.add;split
   ·rename_i h;subst h;rfl
   ·rfl
  rw [had];simp only [GB,List.getElem?_map,Option.map_eq_some_iff] at hj;obtain⟨q,hq1,rfl⟩:=hj;exact hq j q hq1
 have hlow:lo≤w.heap.size:=by have:=ho.low;omega
 have HQ:=hid hnews;have HZZ:=hid hz;clear h ho hq hnews hz;go_enter Tryz.func116,Tryz.ntmps116;go_wp2_with (at_builtin;refine wpList_append_own_at _ rfl _ _ 55 rfl lo 47 iP _ 1 8 Tryz.underlying55 hiP hz0 hz1 hz2 rfl (by decide) _ _ _ rfl hrow ⟨b,o,none⟩ qs.length mc (GB qs) rfl (by rw [DJ,Nat.mul_one]) HQ.out (zG qs) (by unfold maxLen;omega) (by omega) hlow ?_);intro v1 w1 hown hgrow _ hat;obtain⟨va,vc,rfl⟩:=xB hown;have hF1:Fr (YD kv) w w1:=Fr.grown hgrow (fun k hk=>by simp [YD,hk]);have hpX:p ∉ YD kv:=by
  have:=HO.out.sep;unfold YD;split
  ·rename_i b' hb';simp;intro e;subst e;exact this hb'
  ·simp
 have hcX:∀ b∈YD kv,c < b:=by
  intro b' hb';unfold YD at hb';split at hb'
  ·rename_i b2 hb2;simp at hb';subst hb';have:=(HO.out.row.lt _ hb2).1;omega
  ·simp at hb'
 have hO1:=HO.out.blk.later hF1 hpX;have hzX:E.zo=none∨E.zb ∉ YD kv:=HZZ.out.imp id (fun h m=>by
  unfold YD at m;split at m
  ·rename_i b2 hb2;simp at m;exact h.2 (m ▸ hb2)
  ·simp at m)
 have hzp:E.zo=none∨E.zb ∉ [p]:=HZZ.out.imp id (fun h m=>h.1 (by simpa using m));have hR1:=HR.out.later hF1 hcX hzX;obtain⟨_,_,_,_,l4⟩:=hO1.cells;have f4:=hO1.free 4;have hpv:(Value.slice va (ps.length+qs.length) vc).ownBlock≠some p:=by
  rcases hat with e|e
  ·rw [e];exact HO.out.sep
  ·rw [e];intro x;cases x;omega
 go_upto_region 2 with fail;have hO2:=hO1.kids (.slice va (ps.length+qs.length) vc);have hF2:Fr [p] w1 (w1.setCell ⟨p,4,none⟩ (.slice va (ps.length+qs.length) vc)):=Fr.set (a:=⟨p,4,none⟩);have hcp:c < p:=by have:=HO.out.low;omega
 have hR2:=hR1.later hF2 (fun k hk=>by simp at hk;omega) hzp;clear hzX;have hrow2:=pD hown hF2 (fun b' hb'=>by simp at hb';subst hb';exact hpv);have hF:=(hF1.weaken (Y:=p::YD kv) (fun k _ hk=>List.mem_cons_of_mem _ hk)).trans (hF2.weaken (fun k _ hk=>by simp at hk;simp [hk]));clear hO1 hR1 l4 f4 hzp hF1 hF2 hown hgrow hat hcX hrow k0 k1 k2 k3 k4;generalize w1.setCell ⟨p,4,none⟩ (.slice va (ps.length+qs.length) vc)=w2 at *;obtain⟨h0,h1,h2,h3,h4⟩:=hR2.cells;obtain⟨l0,l1,l2,l3,l4⟩:=hO2.cells;have f3:=hO2.free 3;have HZ:=hid (And.intro hO2 (And.intro hR2 (And.intro hrow2 (And.intro hF (And.intro hpv hcp)))));clear hO2 hR2 hrow2 hF hpv hcp;go_wp2_with fail;go_ret;obtain⟨hO2,hR2,hrow2,hF,hpv,hcp⟩:=HZ.out;have hF3:Fr [p] w2 (w2.setCell ⟨p,3,none⟩ (.int .i64 (n:Int))):=Fr.set (a:=⟨p,3,none⟩);refine⟨rfl,⟨_,hO2.end_ n,?_,HO.out.low,hpv⟩,hR2.later hF3 (fun k hk=>by simp at hk;omega) (HZZ.out.imp id (fun h m=>h.1 (by simpa using m))),hF.trans (hF3.weaken (fun k _ hk=>by simp at hk;simp [hk]))⟩;have:=pD hrow2 hF3 (fun b' hb'=>by simp at hb';subst hb';exact hpv);simpa [GB] using this
end
end Go.Proofs.YtcjmpafkcmlhbaaGreatDoor
