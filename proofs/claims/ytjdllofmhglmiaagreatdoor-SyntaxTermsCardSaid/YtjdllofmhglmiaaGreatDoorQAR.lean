import Derived.Test.YtjdllofmhglmiaaGreatDoorQAF
import Derived.Laws.AppendOwnNone
namespace Go.Proofs.YtjdllofmhglmiaaGreatDoor
open Lib(hid)
set_option linter.all false
set_option maxHeartbeats 40000000
set_option maxRecDepth 100000
section
open Go.RowKit
theorem Rd.below {E:Ev}{c n:Nat}{g:Bool}{w w':World} (h:Rd E c n g w) (hb:Below w.heap.size w w'):Rd E c n g w':=h.later (Fr.below (X:=[]) hb) (fun k m=>by cases m) (.inr Cu)
theorem ZD (E:Ev) (c:Nat) (i:Int) (w:World) (h1:w.cell? (y8 c 1)=some (.slice E.ta E.l.length E.tcap)) (hl:Lie E c w) :
  Calls Tryz.prog 148 #[p8 c,i8 i] w fun e w'=>e=.returned (.int .u8 ((E.kind i).toNat:Int))/\Below w.heap.size w w':=by
 by_cases hi:i < 0
 ·have d0:decide (i < 0)=true:=decide_eq_true hi;have hw:E.kind i=0:=by unfold Env.kind;rw [Bb hi]
  rw [hw];clear hi hw hl
  go_in
  exact zax
 ·have d0:decide (i < 0)=false:=decide_eq_false hi;obtain⟨n,rfl⟩:=Ad (Int.not_lt.1 hi);by_cases hn:n < E.l.length
  ·have d1:decide ((E.l.length:Int)<=(n:Int))=false:=decide_eq_false Cs;have ht:E.l[n]?=some (E.l[n]):=O' hn;have hw:E.kind (n:Int)=E.l[n].kind:=by
    unfold Env.kind;exact zcx
   obtain⟨b,o,hta,_,c0,_,_⟩:=hl.toks n _ ht;rw [hw];generalize E.l[n]=t at *;rw [hta] at h1;have b0:(0:Int)<=(n:Int):=Cs
   have b1:(n:Int) < (E.l.length:Int):=Cs
   clear hl ht hta hw
   go_in
   exact za8
  ·have d1:decide ((E.l.length:Int)<=(n:Int))=true:=decide_eq_true Cs;have hw:E.kind (n:Int)=0:=by unfold Env.kind;rw [Bc hi];simp only [Ai,As (Nat.le_of_not_lt hn)]
   rw [hw];clear hw hl
   go_in
   exact zax
theorem pE {E:Ev}{c n:Nat}{g:Bool}{w:World} (h:Rd E c n g w) :
  Calls Tryz.prog 76 #[p8 c] w fun e w'=>e=.returned (.string ⟨(E.word n).toArray⟩)/\Below w.heap.size w w':=by
 obtain⟨h0,h1,h2,h3,h4⟩:=h.cells;have HW:=hid (BH E c (n:Int) w h0 h1 h.lie);clear h
 go_in
 go_wp2_with fail;refine HW.out.mono ?_;rintro e w1 ⟨rfl,hb⟩;go_wp2_with fail;go_ret;exact⟨rfl,hb⟩
theorem tT {E:Ev}{c n:Nat}{g:Bool}{w:World} (h:Rd E c n g w) :
  Calls Tryz.prog 44 #[p8 c] w fun e w'=>e=.returned (.bool (E.ended n))/\Below w.heap.size w w':=by
 obtain⟨h0,h1,h2,h3,h4⟩:=h.cells;have hd:((n:Int)==(E.l.length:Int))=E.ended n:=by
  unfold Env.ended;rw [Bg];simp;omega
 have HD:=hid hd;clear h hd
 go_in
 go_wp2_with fail;go_region;go_wp2_with fail;go_ret;exact⟨Kw,(N' _ _).drew⟩
theorem eK {E:Ev}{c n:Nat}{g:Bool}{w:World} (h:Rd E c n g w) (i:Int) :
  Calls Tryz.prog 108 #[p8 c,i8 i] w fun e w'=>e=.returned (.bool (E.named i))/\Below w.heap.size w w':=by
 obtain⟨h0,h1,h2,h3,h4⟩:=h.cells;have HK:=hid (ZD E c i w h1 h.lie);have hd:(((E.kind i).toNat:Int)==1)=E.named i:=by
  unfold Env.named;rw [Bg,Bh,Bh,<- Ay]
  show _↔(E.kind i).toNat=1
  omega
 have HD:=hid hd;clear h hd
 go_in
 go_wp2_with fail;refine HK.out.mono ?_;rintro e w1 ⟨rfl,hb⟩;go_wp2_with fail;go_ret;exact⟨Kw,hb⟩
theorem VH {E:Ev}{c n:Nat}{g:Bool}{w:World} (h:Rd E c n g w) :
  Calls Tryz.prog 45 #[p8 c] w fun e w'=>e=.panicked [{ v:=.iface 79 (i8 (n:Int)),recovered:=false }]/\w'=w:=by
 obtain⟨h0,h1,h2,h3,h4⟩:=h.cells;clear h
 go_in
 go_wp2_with fail;exact⟨rfl,rfl,rfl⟩
theorem lA {w w':World} (c:Nat) (h:Below w.heap.size w w'):Fr [c] w w':=Fr.below h
theorem NH {E:Ev}{c n:Nat}{g:Bool}{w:World} (h:Rd E c n g w) (x:UInt8) (ws:List UInt8) :
  Calls Tryz.prog 74 #[p8 c,.string ⟨(x::ws).toArray⟩] w (Did E c g (want E.toEnv (x::ws) n) w):=by
 have HN:=hid (pE h);have HR:=hid h;have hs:(n:Int)<=1099511627776:=Em
 cases hw:E.is n (x::ws) with
 | true =>
  have hlt:=gA hw;have hd:(E.word n==x::ws)=true:=hw;have hr:want E.toEnv (x::ws) n=.ok () (n+1):=by unfold want;rw [Bb hw]
  rw [hr];have HL:=hid hlt;clear h hw hr hlt
  go_in
  go_wp2_with fail;refine HN.out.mono ?_;rintro e w1 ⟨rfl,hb⟩;have hR1:=HR.out.below hb;obtain⟨h0,h1,h2,h3,h4⟩:=hR1.cells;have f3:=hR1.free 3;have HR1:=hid hR1;clear hR1;go_wp2_with fail;go_end0;exact⟨rfl,by simpa using HR1.out.moved (n+1) Fl,(lA c hb).trans Jk⟩
 | false =>
  have hd:(E.word n==x::ws)=false:=hw;have hr:want E.toEnv (x::ws) n=.bad n:=by unfold want;rw [Bc (by rw [hw];decide)]
  rw [hr];clear h hw hr
  go_in
  go_wp2_with fail;refine HN.out.mono ?_;rintro e w1 ⟨rfl,hb⟩;have hR1:=HR.out.below hb;have HF:=hid (VH hR1);have HR1:=hid hR1;clear hR1;go_wp2_with fail;refine HF.out.mono ?_;rintro e w2 ⟨rfl,rfl⟩;exact⟨rfl,rfl,⟨g,HR1.out⟩,lA c hb⟩
def May (E:Ev) (c:Nat) (g:Bool) (ws:List UInt8) (n:Nat) (w:World) (e:Ending) (w':World):Prop :=
 e=.returned (.bool (E.is n ws))/\Rd E c (after E.toEnv ws n) g w'/\Fr [c] w w'
theorem aK {E:Ev}{c n:Nat}{g:Bool}{w:World} (h:Rd E c n g w) (x:UInt8) (ws:List UInt8) :
  Calls Tryz.prog 43 #[p8 c,.string ⟨(x::ws).toArray⟩] w (May E c g (x::ws) n w):=by
 have HN:=hid (pE h);have HR:=hid h;have hs:(n:Int)<=1099511627776:=Em
 cases hw:E.is n (x::ws) with
 | true =>
  have hlt:=gA hw;have hd:(E.word n==x::ws)=true:=hw;have hr:after E.toEnv (x::ws) n=n+1:=by unfold after;rw [Bb hw]
  have HL:=hid (Az hlt (Az hr hw));clear h hw hr hlt
  go_in
  go_wp2_with fail;refine HN.out.mono ?_;rintro e w1 ⟨rfl,hb⟩;have hR1:=HR.out.below hb;obtain⟨h0,h1,h2,h3,h4⟩:=hR1.cells;have f3:=hR1.free 3;have HR1:=hid hR1;clear hR1;go_wp2_with fail;go_ret;exact⟨by rw [HL.out.2.2];rfl,by rw [HL.out.2.1];simpa using HR1.out.moved (n+1) (by have:=HL.out.1;omega),(lA c hb).trans Jk⟩
 | false =>
  have hd:(E.word n==x::ws)=false:=hw;have hr:after E.toEnv (x::ws) n=n:=by unfold after;rw [Bc (by rw [hw];decide)]
  have HL:=hid (Az hr hw);clear h hw hr
  go_in
  go_wp2_with fail;refine HN.out.mono ?_;rintro e w1 ⟨rfl,hb⟩;go_wp2_with fail;go_ret;exact⟨by rw [HL.out.2];rfl,by rw [HL.out.1];exact HR.out.below hb,lA c hb⟩
def New (E:Ev) (c n:Nat) (g:Bool) (k:UInt8) (wd:Int) (f t:Nat) (w:World) (e:Ending) (w':World):Prop :=
 ∃ p,e=.returned (p8 p)/\w.heap.size<=p/\YC w' p k wd f t (.slice none 0 0)/\Rd E c n g w'/\Below w.heap.size w w'
theorem wJ {E:Ev}{c n:Nat}{g:Bool}{w:World} (h:Rd E c n g w) (k:UInt8) :
  Calls Tryz.prog 118 #[p8 c,.int .u8 (k.toNat:Int)] w (New E c n g k (-1) n n w):=by
 obtain⟨h0,h1,h2,h3,h4⟩:=h.cells;have HR:=hid h;clear h
 go_in
 go_wp2_with fail;go_region
 all_goals (go_wp2_with fail)
 all_goals go_ret
 have hB:=((N' w.heap.size w).alloc (C' _) (Obj.cells #[.int .u8 (k.toNat:Int),i8 (-1),i8 (n:Int),i8 (n:Int),.slice none 0 0] 54)).drew;exact⟨w.heap.size,rfl,C' _,B8 w _,HR.out.below hB,hB⟩
theorem uP {E:Ev}{c n:Nat}{g:Bool}{w:World} (h:Rd E c n g w) (k:UInt8) :
  Calls Tryz.prog 73 #[p8 c,.int .u8 (k.toNat:Int)] w (New E c n g k (-1) n 0 w):=by
 obtain⟨h0,h1,h2,h3,h4⟩:=h.cells;have HR:=hid h;clear h
 go_in
 go_wp2_with fail;go_ret;have hB:=(N' w.heap.size w).alloc (C' _) (Obj.cells #[.int .u8 (k.toNat:Int),i8 (-1),i8 (n:Int),i8 0,.slice none 0 0] 54);exact⟨w.heap.size,rfl,C' _,B8 w _,HR.out.below hB,hB⟩
theorem EG {w:World}{p:Nat}{k:UInt8}{wd:Int}{f t lo hi:Nat} (h:YC w p k wd f t (.slice none 0 0)) (h1:lo<=p) (h2:p < hi):EA w lo hi p (.mk k wd f t []) :=
 ⟨⟨h1,h2⟩,none,0,[],h,.inl rfl,trivial⟩
theorem IL {E:Ev}{c n:Nat}{g:Bool}{w:World} (h:Rd E c n g w) (k:UInt8) (ok:Bool) (hok:ok=true->n < E.l.length) :
  Calls Tryz.prog 120 #[p8 c,.int .u8 (k.toNat:Int),.bool ok] w (Ans E c g (leaf k ok n) w):=by
 have HR:=hid h;have hs:(n:Int)<=1099511627776:=Em
 cases ok with
 | true =>
  have hlt:=hok rfl;have f3:=h.free 3;obtain⟨h0,h1,h2,h3,h4⟩:=h.cells;have HL:=hid hlt;clear h hok hlt;have hM:=HR.out.moved (n+1) Fl;obtain⟨m0,m1,m2,m3,m4⟩:=hM.cells;have hF:Fr [c] w (w.setCell (y8 c 3) (i8 ((n+1:Nat):Int))):=Fr.set (a:=(y8 c 3));have HM:=hid (Az hM hF);clear hM hF;rw [show ((n+1:Nat):Int)=(n:Int)+1 from Cs] at m0 m1 m2 m3 m4 HM
  go_in
  go_wp2_with fail;generalize w.setCell (y8 c 3) (i8 ((n:Int)+1))=w1 at *;have hn1:(n:Int)+1 - 1=n:=Cs
  clear h0 h1 h2 h3 h4 f3 m0 m1 m2 m4;go_region
  all_goals (go_wp2_with fail)
  all_goals go_ret
  have hB:=((N' w1.heap.size w1).alloc (C' _) (Obj.cells #[.int .u8 (k.toNat:Int),i8 (n:Int),i8 (n:Int),i8 ((n:Int)+1),.slice none 0 0] 54)).drew;have hO:YC (w1.alloc (Obj.cells #[.int .u8 (k.toNat:Int),i8 (n:Int),i8 (n:Int),i8 ((n:Int)+1),.slice none 0 0] 54)).drew w1.heap.size k n n (n+1) (.slice none 0 0):=B8 w1 _;exact⟨w1.heap.size,rfl,HM.out.1.below hB,EG hO HM.out.2.size Cu,HM.out.2.trans (lA c hB)⟩
 | false =>
  have HF:=hid (VH h);clear h hok
  go_in
  go_wp2_with fail;refine HF.out.mono ?_;rintro e w2 ⟨rfl,rfl⟩;exact⟨rfl,rfl,⟨g,HR.out⟩,Fr.refl _ _⟩
theorem eW {E:Env}{n:Nat} (h:E.named n=true):n < E.l.length:=by
 exact zch
theorem OT {E:Env}{n:Nat} (h:E.quoted n=true):n < E.l.length:=by
 exact zdk
theorem Ans.behind {E:Ev}{c:Nat}{g:Bool}{r:R Tr}{w w1:World}{e:Ending}{w':World} (h:Ans E c g r w1 e w') (hf:Fr [c] w w1):Ans E c g r w e w':=by
 unfold Ans at h ⊢;cases r with
 | ok t n =>
  obtain⟨p,h1,h2,h3,h4⟩:=h;exact⟨p,h1,h2,EA.kept (fun _ _ _=>rfl) hf.size (C' _) p t h3,hf.trans h4⟩
 | bad k=>exact⟨h.1,h.2.1,hf.trans h.2.2⟩
 | out=>exact h
theorem VI {E:Ev}{c n:Nat}{g:Bool}{w:World} (h:Rd E c n g w) (i:Int) :
  Calls Tryz.prog 185 #[p8 c,i8 i] w fun e w'=>e=.returned (.bool (E.quoted i))/\Below w.heap.size w w':=by
 obtain⟨h0,h1,h2,h3,h4⟩:=h.cells;have HK:=hid (ZD E c i w h1 h.lie);have hd:(((E.kind i).toNat:Int)==7)=E.quoted i:=by
  unfold Env.quoted;rw [Bg,Bh,Bh,<- Ay]
  show _↔(E.kind i).toNat=7
  omega
 have HD:=hid hd;clear h hd
 go_in
 go_wp2_with fail;refine HK.out.mono ?_;rintro e w1 ⟨rfl,hb⟩;go_wp2_with fail;go_ret;exact⟨Kw,hb⟩
theorem yJ {E:Ev}{c n:Nat}{g:Bool}{w:World} (h:Rd E c n g w) :
  Calls Tryz.prog 75 #[p8 c] w (Ans E c g (LC E.toEnv n) w):=by
 obtain⟨h0,h1,h2,h3,h4⟩:=h.cells;have HR:=hid h;have HN:=hid (eK h (n:Int));clear h h0 h1 h2 h4
 go_in
 go_wp2_with fail;refine HN.out.mono ?_;rintro e w1 ⟨rfl,hb⟩;have HL:=hid (IL (HR.out.below hb) 26 (E.named n) (fun h=>eW h));generalize hx:E.named (n:Int)=x at HL ⊢;go_wp2_with fail;refine HL.out.mono ?_;rintro e w2 hA;have hA2:Ans E c g (LC E.toEnv n) w e w2:=by
  have:=hA.behind (lA c hb);rw [<- hx] at this;exact this
 clear hA HL HN HR h3 hb hx;generalize LC E.toEnv n=r at *;cases r with
 | ok t m =>
  exact zdv
 | bad k =>
  obtain⟨rfl,q1,q2⟩:=hA2;exact⟨rfl,rfl,q1,q2⟩
 | out=>exact hA2.elim
theorem FN {E:Ev}{c n:Nat}{g:Bool}{w:World} (h:Rd E c n g w) :
  Calls Tryz.prog 159 #[p8 c] w (Ans E c g (TH E.toEnv n) w):=by
 obtain⟨h0,h1,h2,h3,h4⟩:=h.cells;have HR:=hid h;have HN:=hid (VI h (n:Int));clear h h0 h1 h2 h4
 go_in
 go_wp2_with fail;refine HN.out.mono ?_;rintro e w1 ⟨rfl,hb⟩;have HL:=hid (IL (HR.out.below hb) 27 (E.quoted n) (fun h=>OT h));generalize hx:E.quoted (n:Int)=x at HL ⊢;go_wp2_with fail;refine HL.out.mono ?_;rintro e w2 hA;have hA2:Ans E c g (TH E.toEnv n) w e w2:=by
  have:=hA.behind (lA c hb);rw [<- hx] at this;exact this
 clear hA HL HN HR h3 hb hx;generalize TH E.toEnv n=r at *;cases r with
 | ok t m =>
  exact zdv
 | bad k =>
  obtain⟨rfl,q1,q2⟩:=hA2;exact⟨rfl,rfl,q1,q2⟩
 | out=>exact hA2.elim
end
section
open Go.RowKit
def GB (ps:List Nat):List Value:=ps.map fun (p:Nat)=>p8 p
theorem DJ (ps:List Nat):(GB ps).length=ps.length:=by simp [GB]
theorem zG (ps:List Nat):∀ u∈GB ps,u.oneCell'=true:=by
 intro u hu;simp only [GB,List.mem_map] at hu;obtain⟨p,_,rfl⟩:=hu
 rfl
theorem Tryz.infoP:(Tryz.prog.info? 44).map (fun i=>(i.zero,i.size,i.bytes))=some (some (.pointer none),1,8):=Cw
def eV (w:World) (ka:Option Addr) (qs:List Nat):Prop:=qs=[]∨∃ b o,ka=some (y8 b o)/\∀ (j p:Nat),qs[j]?=some p->w.cell? (y8 b (o+j))=some (p8 p)
structure Opn (w:World) (lo p:Nat) (k:UInt8) (wd:Int) (f t:Nat) (ps:List Nat) (kv:Value):Prop where
 blk:YC w p k wd f t kv
 row:w.ownsRow lo 44 1 kv ps.length (GB ps)
 low:lo<=p
 sep:kv.ownBlock≠some p
theorem YC.cells {w:World}{p:Nat}{k:UInt8}{wd:Int}{f t:Nat}{kv:Value} (h:YC w p k wd f t kv) :
  w.cell? (y8 p 0)=some (.int .u8 (k.toNat:Int))/\w.cell? (y8 p 1)=some (i8 wd)/\w.cell? (y8 p 2)=some (i8 (f:Int))/\w.cell? (y8 p 3)=some (i8 (t:Int))/\w.cell? (y8 p 4)=some kv:=by
 have hb:w.heap[p]?=_:=h;refine⟨?_,?_,?_,?_,?_⟩ <;> simp [World.cell?,hb]
theorem YC.free {w:World}{p:Nat}{k:UInt8}{wd:Int}{f t:Nat}{kv:Value} (h:YC w p k wd f t kv) (i:Nat):w.frozen? (y8 p i)=false:=by
 have hb:w.heap[p]?=_:=h;simp [World.frozen?,hb]
theorem YC.lt {w:World}{p:Nat}{k:UInt8}{wd:Int}{f t:Nat}{kv:Value} (h:YC w p k wd f t kv):p < w.heap.size:=by
 have hb:w.heap[p]?=_:=h;rcases Nat.lt_or_ge p w.heap.size with h|h
 ·exact h
 ·exact zec
theorem YC.later {w w':World}{p:Nat}{k:UInt8}{wd:Int}{f t:Nat}{kv:Value}{X:List Nat} (h:YC w p k wd f t kv) (hf:Fr X w w') (hX:p ∉ X):YC w' p k wd f t kv:=hf.at_ hX h
theorem YC.kids {w:World}{p:Nat}{k:UInt8}{wd:Int}{f t:Nat}{kv:Value} (h:YC w p k wd f t kv) (kv':Value):YC (w.setCell (y8 p 4) kv') p k wd f t kv':=by
 unfold YC;rw [heap_setCell_same w p 4 _ _ _ h];rfl
theorem YC.end_ {w:World}{p:Nat}{k:UInt8}{wd:Int}{f t:Nat}{kv:Value} (h:YC w p k wd f t kv) (t':Nat):YC (w.setCell (y8 p 3) (i8 (t':Int))) p k wd f t' kv:=by
 unfold YC;rw [heap_setCell_same w p 3 _ _ _ h];rfl
theorem YC.named_ {w:World}{p:Nat}{k:UInt8}{wd:Int}{f t:Nat}{kv:Value} (h:YC w p k wd f t kv) (wd':Int):YC (w.setCell (y8 p 1) (i8 wd')) p k wd' f t kv:=by
 unfold YC;rw [heap_setCell_same w p 1 _ _ _ h];rfl
theorem YC.kinded {w:World}{p:Nat}{k:UInt8}{wd:Int}{f t:Nat}{kv:Value} (h:YC w p k wd f t kv) (k':UInt8):YC (w.setCell (y8 p 0) (.int .u8 (k'.toNat:Int))) p k' wd f t kv:=by
 unfold YC;rw [heap_setCell_same w p 0 _ _ _ h];rfl
theorem xB {w:World}{base:Nat}{e:TypeId}{size:Nat}{v:Value}{n:Nat}{xs:List Value} (h:w.ownsRow base e size v n xs):∃ a cap,v=.slice a n cap:=by
 exact zdg
theorem pD {w w':World}{X:List Nat}{lo:Nat}{kv:Value}{n:Nat}{xs:List Value}{e:TypeId} (h:w.ownsRow lo e 1 kv n xs) (hf:Fr X w w') (hX:∀ b∈X,kv.ownBlock≠some b):w'.ownsRow lo e 1 kv n xs:=by
 rcases h.2 with h0|⟨g,cap,cur,hv,hg,hh,hr⟩
 ·exact⟨h.1,.inl h0⟩
 ·refine⟨h.1,.inr ⟨g,cap,cur,hv,hg,?_,hr⟩⟩;exact hf.at_ (fun m=>hX g m (by rw [hv];rfl)) hh
def YD (kv:Value):List Nat:=match kv.ownBlock with|some b=>[b]|none=>[]
def ZV (E:Ev) (c n:Nat) (g:Bool) (lo p:Nat) (k:UInt8) (wd:Int) (f:Nat) (ps:List Nat) (kv:Value) (w:World) (e:Ending) (w':World):Prop :=
 e=.returned (p8 p)/\(∃ kv',Opn w' lo p k wd f n ps kv')/\Rd E c n g w'/\Fr (p::YD kv) w w'
theorem rN {E:Ev}{c n:Nat}{g:Bool}{w:World} (h:Rd E c n g w) {lo p:Nat}{k:UInt8}{wd:Int}{f t:Nat}{ps:List Nat}{kv:Value} (ho:Opn w lo p k wd f t ps kv) (hlo:c < lo) (hz:E.zo=none∨(E.zb≠p/\kv.ownBlock≠some E.zb))
  (b o:Nat) (qs:List Nat) (mc:Nat) (hq:∀ (j p:Nat),qs[j]?=some p->w.cell? (y8 b (o+j))=some (p8 p)) (hsm:ps.length+qs.length<=1099511627776) :
  Calls Tryz.prog 80 #[p8 c,p8 p,.slice (some (y8 b o)) qs.length mc] w (ZV E c n g lo p k wd f (ps++qs) kv w):=by
 obtain⟨iP,hiP,hz0,hz1,hz2⟩:=info_parts Tryz.infoP;obtain⟨k0,k1,k2,k3,k4⟩:=ho.blk.cells;have hlt:=ho.blk.lt;have hrow:=ho.row;have HR:=hid h;have HO:=hid ho;have hnews:∀ (j:Nat) (u:Value),(GB qs)[j]?=some u->w.cell? ((Addr.mk b o none).add j)=some u:=by
  intro j u hj;have had:(Addr.mk b o none).add j=(y8 b (o+j)):=by
   unfold Addr.add;split
   ·rename_i h;subst h;rfl
   ·rfl
  rw [had];simp only [GB,List.getElem?_map,Option.map_eq_some_iff] at hj;obtain⟨q,hq1,rfl⟩:=hj;exact hq j q hq1
 have hlow:lo<=w.heap.size:=by have:=ho.low;omega
 have HQ:=hid hnews;have HZZ:=hid hz;clear h ho hq hnews hz
 go_in
 go_wp2_with (at_builtin;refine wpList_append_own_at _ rfl _ _ 52 rfl lo 44 iP _ 1 8 Tryz.underlying52 hiP hz0 hz1 hz2 rfl Ct _ _ _ rfl hrow (y8 b o) qs.length mc (GB qs) rfl (by rw [DJ,Nat.mul_one]) HQ.out (zG qs) Da Cs hlow ?_);intro v1 w1 hown hgrow _ hat;obtain⟨va,vc,rfl⟩:=xB hown;have hF1:Fr (YD kv) w w1:=Fr.grown hgrow (fun k hk=>Gl);have hpX:p ∉ YD kv:=by
  have:=HO.out.sep;unfold YD;split
  ·rename_i b' hb';simp;intro e;subst e;exact this hb'
  ·simp
 have hcX:∀ b∈YD kv,c < b:=by
  intro b' hb';unfold YD at hb';split at hb'
  ·rename_i b2 hb2;simp at hb';subst hb';have:=(HO.out.row.lt _ hb2).1;omega
  ·simp at hb'
 have hO1:=HO.out.blk.later hF1 hpX;have hzX:E.zo=none∨E.zb ∉ YD kv:=HZZ.out.imp id (fun h m=>by
  unfold YD at m;split at m
  ·rename_i b2 hb2;simp at m;exact h.2 (m ▸ hb2)
  ·simp at m)
 have hzp:E.zo=none∨E.zb ∉ [p]:=HZZ.out.imp id (fun h m=>h.1 Gq);have hR1:=HR.out.later hF1 hcX hzX;obtain⟨_,_,_,_,l4⟩:=hO1.cells;have f4:=hO1.free 4;have hpv:(Value.slice va (ps.length+qs.length) vc).ownBlock≠some p:=by
  rcases hat with e|e
  ·rw [e];exact HO.out.sep
  ·rw [e];intro x;cases x;omega
 go_upto_region 2 with fail;have hO2:=hO1.kids (.slice va (ps.length+qs.length) vc);have hF2:Fr [p] w1 (w1.setCell (y8 p 4) (.slice va (ps.length+qs.length) vc)):=Fr.set (a:=(y8 p 4));have hcp:c < p:=by have:=HO.out.low;omega
 have hR2:=hR1.later hF2 (fun k hk=>Dj) hzp;clear hzX;have hrow2:=pD hown hF2 (fun b' hb'=>by simp at hb';subst hb';exact hpv);have hF:=(hF1.weaken (Y:=p::YD kv) (fun k _ hk=>Bm _ hk)).trans (hF2.weaken (fun k _ hk=>Dv));clear hO1 hR1 l4 f4 hzp hF1 hF2 hown hgrow hat hcX hrow k0 k1 k2 k3 k4;generalize w1.setCell (y8 p 4) (.slice va (ps.length+qs.length) vc)=w2 at *;obtain⟨h0,h1,h2,h3,h4⟩:=hR2.cells;obtain⟨l0,l1,l2,l3,l4⟩:=hO2.cells;have f3:=hO2.free 3;have HZ:=hid (Az hO2 (Az hR2 (Az hrow2 (Az hF (Az hpv hcp)))));clear hO2 hR2 hrow2 hF hpv hcp;go_wp2_with fail;go_ret;obtain⟨hO2,hR2,hrow2,hF,hpv,hcp⟩:=HZ.out;have hF3:Fr [p] w2 (w2.setCell (y8 p 3) (i8 (n:Int))):=Fr.set (a:=(y8 p 3));refine⟨rfl,⟨_,hO2.end_ n,?_,HO.out.low,hpv⟩,hR2.later hF3 (fun k hk=>Dj) (HZZ.out.imp id (fun h m=>h.1 Gq)),hF.trans (hF3.weaken (fun k _ hk=>Dv))⟩;have:=pD hrow2 hF3 (fun b' hb'=>by simp at hb';subst hb';exact hpv);simpa [GB] using this
end
section
open Go.RowKit
theorem NA (c i:Nat) (w:World) (v:Value):Fr [c] w (w.setCell (y8 c i) v):=Fr.set (a:=(y8 c i))
theorem VE {f:FuncId}{fn:Func} (h:Tryz.prog.funcs[f]?=some fn) (hn:(fn.name== "runtime.NumGoroutine")=false) (hb:fn.body.isNone=false) (args:Array Value) (w:World) :
  Sem.run Tryz.prog (callFunc f args) w=.ok (.enter f args) w:=by
 have hn':fn.name≠ "runtime.NumGoroutine":=by simpa using hn
 have hb':fn.body≠none:=by intro e;rw [e] at hb;cases hb
 unfold callFunc;simp [h,hn',hb',go_sem]
def XJ (φ:Nat->Prop) (E:Ev) (c:Nat) (g:Bool) (r:R Tr) (w0:World) (e:Ending) (w':World):Prop:=(∀ q,e=.returned (p8 q)->φ q)/\Ans E c g r w0 e w'
theorem GG {E:Ev}{c n:Nat}{g:Bool}{w:World} (h:Rd E c n g w) (f:FuncId) (first cap:Array Value) (hcf:∀ w1,Sem.run Tryz.prog (callFunc f (first++cap)) w1=.ok (.enter f (first++cap)) w1) (r:R Tr) (φ:Nat->Prop) (wB:World) (hB:Fr [c] wB w) (hcB:c < wB.heap.size)
  (H:∀ w1,Rd E c n false w1->Fr [c] w w1->Calls Tryz.prog f (first++cap) w1 (XJ φ E c false r wB)) :
  Calls Tryz.prog 69 #[p8 c,.func (.func f) first cap] w (XJ φ E c g r wB):=by
 obtain⟨h0,h1,h2,h3,h4⟩:=h.cells;have f4:=h.free 4;have hM:=h.headed false;have hF:=NA c 4 w (.bool false);have HH:=hid (H _ hM hF);have HB:=hid (Az hB hcB);clear h H hM hF hB hcB
 go_in
 go_wp2_with fail;generalize w.setCell (y8 c 4) (.bool false)=w1 at *;clear h0 h1 h2 h3 h4 f4 hcf;refine HH.out.mono ?_;rintro e w2 ⟨hq,hA⟩;clear HH;generalize r=r at *;cases r with
 | ok t m =>
  exact za3
 | bad k =>
  exact zd3
 | out=>exact hA.elim
theorem QO {E:Ev}{c n:Nat}{g:Bool}{w:World} (h:Rd E c n g w) (f:FuncId) (first cap:Array Value) (hcf:∀ w1,Sem.run Tryz.prog (callFunc f (first++cap)) w1=.ok (.enter f (first++cap)) w1) (r:R Tr) (φ:Nat->Prop) (wB:World) (hB:Fr [c] wB w) (hcB:c < wB.heap.size)
  (H:∀ w1,Rd E c n true w1->Fr [c] w w1->Calls Tryz.prog f (first++cap) w1 (XJ φ E c true r wB)) :
  Calls Tryz.prog 237 #[p8 c,.func (.func f) first cap] w (XJ φ E c g r wB):=by
 obtain⟨h0,h1,h2,h3,h4⟩:=h.cells;have f4:=h.free 4;have hM:=h.headed true;have hF:=NA c 4 w (.bool true);have HH:=hid (H _ hM hF);have HB:=hid (Az hB hcB);clear h H hM hF hB hcB
 go_in
 go_wp2_with fail;generalize w.setCell (y8 c 4) (.bool true)=w1 at *;clear h0 h1 h2 h3 h4 f4 hcf;refine HH.out.mono ?_;rintro e w2 ⟨hq,hA⟩;clear HH;generalize r=r at *;cases r with
 | ok t m =>
  exact za3
 | bad k =>
  exact zd3
 | out=>exact hA.elim
theorem Opn.done {w:World}{lo p:Nat}{k:UInt8}{wd:Int}{f t:Nat}{ps:List Nat}{kv:Value} (h:Opn w lo p k wd f t ps kv) {ks:List Tr}{hi:Nat} (hk:iG w lo hi ps ks) (hh:w.heap.size<=hi):EA w lo hi p (.mk k wd f t ks):=by
 have hlen:=fA.len hk;have hb:=h.blk.lt;obtain⟨a,cap,rfl⟩:=xB h.row;refine⟨⟨h.low,Cs⟩,a,cap,ps,?_,?_,hk⟩
 ·rw [<- hlen];exact h.blk
 ·by_cases h0:ps=[]
  ·exact .inl h0
  ·right
   have hpos:0 < ps.length:=by
    rcases ps with _|_
    ·exact absurd rfl h0
    ·simp
   obtain⟨g,cap',hv,hg1,hg2⟩:=h.row.form hpos;cases hv;refine⟨g,0,rfl,⟨hg1,Cs⟩,fun j q hj=>?_⟩;have hjl:j < ps.length:=by
    exact zb2
   rw [Nat.zero_add,World.ownsRow.cellAt h.row j Cs];simp [GB,hj]
end
section
open Go.RowKit
theorem EA.cells {w:World}{lo hi p:Nat}{t:Tr} (h:EA w lo hi p t) :
    w.cell? (y8 p 0)=some (.int .u8 (t.kind.toNat:Int))/\w.cell? (y8 p 1)=some (i8 t.word)/\w.cell? (y8 p 2)=some (i8 (t.fr:Int))/\w.cell? (y8 p 3)=some (i8 (t.to:Int)) /\
    ∃ (ka:Option Addr) (cap:Nat) (ps:List Nat),w.cell? (y8 p 4)=some (.slice ka t.kids.length cap)/\rM w lo hi ka ps/\iG w lo hi ps t.kids:=by
  obtain⟨k,wd,f,t',ks⟩:=t;obtain⟨_,ka,cap,ps,hb,h1,h2⟩:=h;refine⟨?_,?_,?_,?_,ka,cap,ps,?_,h1,h2⟩ <;> simp [World.cell?,hb,Tr.kind,Tr.word,Tr.fr,Tr.to,Tr.kids]
theorem EA.lt {w:World}{lo hi p:Nat}{t:Tr} (h:EA w lo hi p t):lo<=p/\p < hi:=by
  obtain⟨k,wd,f,t',ks⟩:=t;exact h.1
def MQ (E:Ev) (c n:Nat) (g:Bool) (lo:Nat) (t:Tr) (w:World) (e:Ending) (w':World):Prop :=
  ∃ p,e=.returned (p8 p)/\Rd E c n g w'/\EA w' lo w'.heap.size p t/\Below w.heap.size w w'
theorem Fr.toBelow {w w':World} (h:Fr [] w w'):Below w.heap.size w w':=⟨h.os,h.tape,h.output,h.size,fun k hk=>h.block k hk Cu⟩
theorem Fr.drew {X:List Nat}{w w':World} (h:Fr X w w'):Fr X w w'.drew:=⟨h.os,h.tape,h.output,h.size,h.block⟩
theorem YC.begun {w:World}{p:Nat}{k:UInt8}{wd:Int}{f t:Nat}{kv:Value} (h:YC w p k wd f t kv) (f':Nat):YC (w.setCell (y8 p 2) (i8 (f':Int))) p k wd f' t kv:=by
  unfold YC;rw [heap_setCell_same w p 2 _ _ _ h];rfl
theorem kH {w:World}{N j:Nat}{x:Value}{a:Addr}{v:Value} (h:a.block≠N) (hc:w.cell? a=some v):(w.setCell (y8 N j) x).cell? a=some v:=by
  have hb:(w.setCell (y8 N j) x).heap[a.block]?=w.heap[a.block]?:=Ah _ _ _ _ h;rw [<- hc];exact World.cell?_of_block hb
theorem IO {α:Type} (l:List α) (h:l≠[]):l[l.length - 1]?=some (l.getLast h):=by
  rw [List.getLast_eq_getElem,O']
theorem iW {E:Ev}{c n:Nat}{g:Bool}{w:World} (h:Rd E c n g w) (k:UInt8) {lo hi:Nat}{ka:Option Addr}{cap:Nat}{ps:List Nat}{ks:List Tr} (hP:rM w lo hi ka ps) (hN:iG w lo hi ps ks) (hhi:hi<=w.heap.size) (hlo:lo<=w.heap.size)
    (hsm:ps.length<=1099511627776) :
    Calls Tryz.prog 78 #[p8 c,.int .u8 (k.toNat:Int),.slice ka ps.length cap] w (MQ E c n g lo (xC k ks n) w):=by
  have hlen:=fA.len hN;have HR:=hid h;have HN:=hid (wJ h k);cases ks with
  | nil =>
    have h0:ps=[]:=Ac (by simpa using hlen);subst h0;clear hP hN hlen h
    go_in
    go_wp2_with fail;refine HN.out.mono ?_;rintro e w1 ⟨p,rfl,a1,a2,a3,a4⟩;have HA:=hid (Az a2 (Az a3 a4));clear a2 a3 a4;go_wp2_with fail;go_ret;obtain⟨a2,a3,a4⟩:=HA.out;exact⟨p,rfl,a3,EG a2 Cs a2.lt,a4⟩
  | cons k0 ks =>
    have hpos:0 < ps.length:=by rw [hlen];simp
    obtain⟨b,o,rfl,⟨hb1,hb2⟩,hc⟩:=hP.resolve_left (fun e=>by rw [e] at hpos;simp at hpos);obtain⟨p0,hp0,hn0⟩:=fA.get 0 k0 hN rfl;obtain⟨p1,hp1,hn1⟩:=fA.get (ps.length - 1) ((k0::ks).getLast Cu) hN (by rw [hlen];exact IO _ _);have c0:=hc 0 p0 hp0;have c1:=hc _ p1 hp1;obtain⟨_,_,f0,_,_⟩:=EA.cells hn0;obtain⟨_,_,_,f1,_⟩:=EA.cells hn1;have hT:xC k (k0::ks) n=.mk k (-1) k0.fr ((k0::ks).getLast Cu).to (k0::ks):=rfl;generalize ((k0::ks).getLast Cu).to=tt at *;have lt0:=EA.lt hn0;have lt1:=EA.lt hn1;obtain⟨m,hm⟩:∃ m,ps.length=m+1:=⟨ps.length - 1,Cs⟩;rw [hm,Nat.add_sub_cancel] at c1;obtain⟨M,hM⟩:∃ M,M=m+1:=⟨_,rfl⟩;rw [<- hM] at hm;have H1:=hid (Az hP (Az hN (Az hT (Az hlen (Az hb1 (Az hb2 hm))))));rw [hm];have b0:(0:Int) < (M:Int):=Cs
    have b1:(0:Int)<=(m:Int):=Cs
    have b2:(m:Int) < (M:Int):=Cs
    have b3:(M:Int) - 1=(m:Int):=Cs
    have b5:(m:Int)<=1099511627776:=Cs
    have w1:IntKind.i64.wrap (m:Int)=(m:Int):=Cy
    have w3:IntKind.i64.wrap ((M:Int) - 1)=(m:Int):=by rw [b3];exact w1
    have b6:m < M:=Cs
    have HMM:=hid hM;clear hM;clear hP hN hT hlen hc hn0 hn1 hp0 hp1 h hm hsm hpos
    go_in
    go_wp2_with fail;refine HN.out.mono ?_;rintro e wq ⟨p,rfl,a1,a2,a3,a4⟩;replace c0:=aA a4 c0;replace c1:=aA a4 c1;replace f0:=aA a4 f0;replace f1:=aA a4 f1;obtain⟨l0,l1,l2,l3,l4⟩:=a2.cells;have z2:=a2.free 2;have z3:=a2.free 3;have z4:=a2.free 4;have hb:b≠p:=Cs
    have HA:=hid (Az a2 (Az a3 a4));clear a2 a3 a4;have hp0:p0≠p:=Cs
    have hp1:p1≠p:=Cs
    rw [Nat.add_zero] at c0;go_wp2_with fail
    go_region_held3 (fun w'=>w'.cell? (y8 b o)=some (p8 p0)/\w'.cell? (y8 b (o+m))=some (p8 p1)/\w'.cell? (y8 p0 2)=some (i8 (k0.fr:Int))/\w'.cell? (y8 p1 3)=some (i8 (tt:Int)))
      (first
        | (refine⟨?_,?_,?_,?_⟩
           all_goals assumption)
        | (go_split_ands
           refine⟨?_,?_,?_,?_⟩
           all_goals exact kH ‹_› ‹_›))
      (first|fail)
    obtain⟨hP,hN,hT,hlen,_,_,hm⟩:=H1.out;obtain⟨a2,a3,a4⟩:=HA.out;have o3:YC (((wq.setCell (y8 p 2) (i8 (k0.fr:Int))).setCell (y8 p 3) (i8 (tt:Int))).setCell (y8 p 4) (.slice (some (y8 b o)) M cap)).drew p k (-1) k0.fr tt (.slice (some (y8 b o)) M cap):=((a2.begun k0.fr).end_ tt).kids _;have hF:Fr [p] wq (((wq.setCell (y8 p 2) (i8 (k0.fr:Int))).setCell (y8 p 3) (i8 (tt:Int))).setCell (y8 p 4) (.slice (some (y8 b o)) M cap)).drew :=
      (((NA p 2 wq _).trans (NA p 3 _ _)).trans (NA p 4 _ _)).drew
    have hcp:c < p:=by have:=HR.out.lt;omega
    have hzl:=HR.out.zlt;have hR:=a3.later hF (fun x hx=>Lf) (hzl.imp id (fun h m=>Fu));have hB:Fr [] w (((wq.setCell (y8 p 2) (i8 (k0.fr:Int))).setCell (y8 p 3) (i8 (tt:Int))).setCell (y8 p 4) (.slice (some (y8 b o)) M cap)).drew :=
      (Fr.below (X:=[]) a4).trans' hF (fun i hi=>.inr F4)
    clear c0 c1 f0 f1 l0 l1 l2 l3 l4 z2 z3 z4 a2 a3 hF;generalize (((wq.setCell (y8 p 2) (i8 (k0.fr:Int))).setCell (y8 p 3) (i8 (tt:Int))).setCell (y8 p 4) (.slice (some (y8 b o)) M cap)).drew=wF at *;have hfin:MQ E c n g lo (xC k (k0::ks) n) w (.returned (p8 p)) wF:=by
      refine⟨p,rfl,hR,?_,hB.toBelow⟩;rw [hT];have hkeep:∀ x,lo<=x->x < hi->wF.heap[x]?=w.heap[x]?:=fun x _ hx=>hB.block x Cs Cu
      have hpl:=o3.lt;have hsz:=hB.size;refine⟨⟨Cs,hpl⟩,some (y8 b o),cap,ps,?_,rM.kept hP hkeep (C' _) Cs,iG.kept hkeep (C' _) Cs ps _ hN⟩;rw [<- hlen,hm];exact o3
    have HFin:=hid hfin;clear hfin hR hB o3 hP hN hT hlen hm a4;go_wp2_with fail;go_ret;exact HFin.out
end
section
open Go.RowKit
theorem rM.of_own {w:World}{lo hi:Nat}{a:Option Addr}{cap:Nat}{ps:List Nat} (h:w.ownsRow lo 44 1 (.slice a ps.length cap) ps.length (GB ps)) (hh:w.heap.size<=hi):rM w lo hi a ps:=by
 by_cases h0:ps=[]
 ·exact .inl h0
 ·right
  have hpos:0 < ps.length:=by
   rcases ps with _|_
   ·exact absurd rfl h0
   ·simp
  obtain⟨g,cap',hv,hg1,hg2⟩:=h.form hpos;cases hv;refine⟨g,0,rfl,⟨hg1,Cs⟩,fun j q hj=>?_⟩;have hjl:j < ps.length:=by
   exact zb2
  rw [Nat.zero_add,World.ownsRow.cellAt h j Cs];simp [GB,hj]
def NI (w0:World) (v:Value) (w:World):Nat->Prop:=fun b=>w0.heap.size<=b/\b < w.heap.size/\v.ownBlock≠some b
def Row (w0:World) (v:Value) (ps:List Nat) (ts:List Tr) (w:World):Prop :=
 w.ownsRow w0.heap.size 44 1 v ps.length (GB ps)/\fA w (NI w0 v w) ps ts
theorem Row.laterX {w0:World}{v:Value}{ps:List Nat}{ts:List Tr}{X:List Nat}{w w':World} (h:Row w0 v ps ts w) (hf:Fr X w w') (hX:∀ x∈X,x < w0.heap.size):Row w0 v ps ts w':=by
 refine⟨pD h.1 hf (fun b hb e=>?_),fA.kept (fun b hb=>hf.block b hb.2.1 (fun m=>by have:=hb.1;have:=hX b m;omega)) (fun b hb=>⟨hb.1,Aj hb.2.1 hf.size,hb.2.2⟩) ps ts h.2⟩;have:=(h.1.lt _ e).1;have:=hX b hb;omega
theorem Row.later {w0:World}{v:Value}{ps:List Nat}{ts:List Tr}{c:Nat}{w w':World} (h:Row w0 v ps ts w) (hf:Fr [c] w w') (hc:c < w0.heap.size) (_hw:w0.heap.size<=w.heap.size):Row w0 v ps ts w':=by
 refine⟨pD h.1 hf (fun b hb e=>?_),fA.kept (fun b hb=>hf.block b hb.2.1 Hf) (fun b hb=>⟨hb.1,Aj hb.2.1 hf.size,hb.2.2⟩) ps ts h.2⟩;simp at hb;subst hb;have:=(h.1.lt _ e).1;omega
theorem Row.more {w0 w3 w5:World}{v v5:Value}{ps:List Nat}{ts:List Tr}{p lo2:Nat}{t:Tr} (h:Row w0 v ps ts w3) (hn:EA w3 lo2 w3.heap.size p t) (hlo:w0.heap.size<=lo2) (hv:∀ b,v.ownBlock=some b->b < lo2)
  (hown:w5.ownsRow w0.heap.size 44 1 v5 (ps.length+1) (GB ps++GB [p])) (hk:∀ b,b < w3.heap.size->v.ownBlock≠some b->w5.heap[b]?=w3.heap[b]?) (hs:w3.heap.size<=w5.heap.size)
  (hat:v5.ownBlock=v.ownBlock∨∃ b,v5.ownBlock=some b/\w3.heap.size<=b):Row w0 v5 (ps++[p]) (ts++[t]) w5:=by
 have h5:∀ b,b < w3.heap.size->v.ownBlock≠some b->v5.ownBlock≠some b:=by
  intro b hb hne e;rcases hat with x|⟨b',x,hx⟩
  ·exact hne (x ▸ e)
  ·rw [x] at e;cases e;omega
 refine⟨by rw [V',show GB (ps++[p])=GB ps++GB [p] from by simp [GB]];exact hown,fA.append ?_ ⟨?_,trivial⟩⟩
 ·exact fA.kept (fun b hb=>hk b hb.2.1 hb.2.2) (fun b hb=>⟨hb.1,Aj hb.2.1 hs,h5 b hb.2.1 hb.2.2⟩) ps ts h.2
 ·have hb':∀ b,within lo2 w3.heap.size b->v.ownBlock≠some b:=fun b hb e=>by have:=hv b e;have:=hb.1;omega
  exact nA.kept (fun b hb=>hk b hb.2 (hb' b hb)) (fun b hb=>⟨An hlo hb.1,Aj hb.2 hs,h5 b hb.2 (hb' b hb)⟩) p t hn
end
section
open Go.RowKit
abbrev OE:Value:=.slice none 0 0
theorem fA.left {w:World}{D:Nat->Prop}:∀ {ps qs:List Nat}{ts us:List Tr},ps.length=ts.length->fA w D (ps++qs) (ts++us)->fA w D ps ts
 | [],_,[],_,_,_=>trivial
 | _::ps,_,_::ts,_,h,⟨a,b⟩=>⟨a,fA.left Dp b⟩
 | [],_,_::_,_,h,_=>Dd
 | _::_,_,[],_,h,_=>Dd
theorem fA.last {w:World}{D:Nat->Prop}:∀ {ps:List Nat}{ts:List Tr}{q:Nat}{u:Tr},ps.length=ts.length->fA w D (ps++[q]) (ts++[u])->nA w D q u
 | [],[],_,_,_,⟨a,_⟩=>a
 | _::ps,_::ts,_,_,h,⟨_,b⟩=>fA.last (ps:=ps) (ts:=ts) Dp b
 | [],_::_,_,_,h,_=>Dd
 | _::_,[],_,_,h,_=>Dd
theorem fA.dropLast {w:World}{D:Nat->Prop}{ps:List Nat}{ts:List Tr}{q:Nat}{u:Tr} (h:fA w D (ps++[q]) (ts++[u])):fA w D ps ts :=
 fA.left Jt h
theorem fA.getLast {w:World}{D:Nat->Prop}{ps:List Nat}{ts:List Tr}{q:Nat}{u:Tr} (h:fA w D (ps++[q]) (ts++[u])):nA w D q u :=
 fA.last Jt h
def ndD (w1:World) (p:Nat) (kv:Value) (w:World):Nat->Prop:=fun b=>w1.heap.size<=b/\b < w.heap.size/\b≠p/\kv.ownBlock≠some b
theorem ndD.later {w1 w w':World}{p:Nat}{kv:Value} (hs:w.heap.size<=w'.heap.size):∀ b,ndD w1 p kv w b->ndD w1 p kv w' b:=fun _ h=>⟨h.1,Aj h.2.1 hs,h.2.2⟩
structure Nd (E:Ev) (c:Nat) (w1:World) (p:Nat) (k:UInt8) (wd:Int) (f t:Nat) (kv:Value) (ps0:List Nat) (ts0:List Tr) (ps:List Nat) (ts:List Tr) (w:World):Prop where
 fr:Fr [c] w1 w
 cw:c < w1.heap.size
 opn:Opn w w1.heap.size p k wd f t ps0 kv
 old:fA w (ndD w1 p kv w) ps0 ts0
 kids:fA w (ndD w1 p kv w) ps ts
 z:E.zo=none∨(E.zb≠p/\kv.ownBlock≠some E.zb)
structure Rw (E:Ev) (c:Nat) (w1:World) (v:Value) (ps:List Nat) (ts:List Tr) (qs:List Nat) (us:List Tr) (w:World):Prop where
 fr:Fr [c] w1 w
 cw:c < w1.heap.size
 own:w.ownsRow w1.heap.size 44 1 v ps.length (GB ps)
 old:fA w (NI w1 v w) ps ts
 kids:fA w (NI w1 v w) qs us
 z:E.zo=none∨v.ownBlock≠some E.zb
section
variable {E:Ev}{c:Nat}{w1:World}{p:Nat}{k:UInt8}{wd:Int}{f t:Nat}{kv v:Value}{ps0:List Nat}{ts0:List Tr}{ps:List Nat}{ts:List Tr}{qs:List Nat}{us:List Tr}{q:Nat}{u:Tr}{w w':World}
theorem Nd.later (w w':World) (h:Nd E c w1 p k wd f t kv ps0 ts0 ps ts w) (hf:Fr [c] w w'):Nd E c w1 p k wd f t kv ps0 ts0 ps ts w':=by
 have hc:=h.cw;have hk:∀ b,ndD w1 p kv w b->w'.heap[b]?=w.heap[b]?:=fun b hb=>hf.block b hb.2.1 Hf
 refine⟨h.fr.trans hf,h.cw,⟨h.opn.blk.later hf (by have:=h.opn.low;simp;omega),pD h.opn.row hf (fun b hb e=>?_),h.opn.low,h.opn.sep⟩,fA.kept hk (ndD.later hf.size) _ _ h.old,fA.kept hk (ndD.later hf.size) _ _ h.kids,h.z⟩;simp at hb;subst hb;have:=(h.opn.row.lt _ e).1;omega
theorem Nd.apart (h:Nd E c w1 p k wd f t kv ps0 ts0 ps ts w) {hi:Nat} (hh:hi<=w'.heap.size):∀ b,within w.heap.size hi b->ndD w1 p kv w' b:=fun b hb=>by
 have h1:=h.fr.size;have h2:=h.opn.blk.lt;obtain⟨b1,b2⟩:=hb;refine⟨Cs,Cs,Cs,fun e=>?_⟩;have:=(h.opn.row.lt _ e).2;omega
theorem Nd.kid (h:Nd E c w1 p k wd f t kv ps0 ts0 ps ts w) (hf:Fr [c] w w') (hn:EA w' w.heap.size w'.heap.size q u):Nd E c w1 p k wd f t kv ps0 ts0 (ps++[q]) (ts++[u]) w':=by
 have h':=Nd.later w w' h hf;exact⟨h'.fr,h'.cw,h'.opn,h'.old,fA.append h'.kids ⟨nA.kept (fun _ _=>rfl) (h.apart (C' _)) q u hn,trivial⟩,h.z⟩
theorem Nd.drop (h:Nd E c w1 p k wd f t kv ps0 ts0 (ps++[q]) (ts++[u]) w):Nd E c w1 p k wd f t kv ps0 ts0 ps ts w:=⟨h.fr,h.cw,h.opn,h.old,h.kids.dropLast,h.z⟩
theorem Nd.own {k':UInt8}{wd':Int}{f' t':Nat} (h:Nd E c w1 p k wd f t kv ps0 ts0 ps ts w) (hf:Fr [p] w w') (ho:YC w' p k' wd' f' t' kv):Nd E c w1 p k' wd' f' t' kv ps0 ts0 ps ts w':=by
 have hk:∀ b,ndD w1 p kv w b->w'.heap[b]?=w.heap[b]?:=fun b hb=>hf.block b hb.2.1 Ju
 exact⟨h.fr.trans' hf (fun i hi=>.inr (by have:=h.opn.low;simp at hi;omega)),h.cw,⟨ho,pD h.opn.row hf (fun b hb=>by simp at hb;subst hb;exact h.opn.sep),h.opn.low,h.opn.sep⟩,
  fA.kept hk (ndD.later hf.size) _ _ h.old,fA.kept hk (ndD.later hf.size) _ _ h.kids,h.z⟩
theorem Nd.word (h:Nd E c w1 p k wd f t kv ps0 ts0 ps ts w) (wd':Int):Nd E c w1 p k wd' f t kv ps0 ts0 ps ts (w.setCell (y8 p 1) (i8 wd')):=h.own (NA p 1 w _) (h.opn.blk.named_ wd')
theorem Nd.new (h:Fr [c] w1 w) (hc:c < w1.heap.size) (hp:w1.heap.size<=p) (ho:YC w p k wd f t OE) (hz:E.zo=none∨E.zb≠p):Nd E c w1 p k wd f t OE [] [] [] [] w :=
 ⟨h,hc,⟨ho,Av _ _ _ _,hp,Dl⟩,trivial,trivial,hz.imp id (fun h=>⟨h,Dl⟩)⟩
theorem Opn.tree {lo:Nat} (h:Opn w lo p k wd f t ps kv) (hk:fA w (within lo w.heap.size) ps ts):EA w lo w.heap.size p (.mk k wd f t ts):=h.done hk (C' _)
theorem NI.later {w1 w w':World}{v:Value} (hs:w.heap.size<=w'.heap.size):∀ b,NI w1 v w b->NI w1 v w' b:=fun _ h=>⟨h.1,Aj h.2.1 hs,h.2.2⟩
theorem Rw.start (h:Fr [c] w1 w) (hc:c < w1.heap.size):Rw E c w1 OE [] [] [] [] w:=⟨h,hc,Av _ _ _ _,trivial,trivial,.inr Dl⟩
theorem Rw.later (w w':World) (h:Rw E c w1 v ps ts qs us w) (hf:Fr [c] w w'):Rw E c w1 v ps ts qs us w':=by
 have hc:=h.cw;have hk:∀ b,NI w1 v w b->w'.heap[b]?=w.heap[b]?:=fun b hb=>hf.block b hb.2.1 Hf
 refine⟨h.fr.trans hf,h.cw,pD h.own hf (fun b hb e=>?_),fA.kept hk (NI.later hf.size) _ _ h.old,fA.kept hk (NI.later hf.size) _ _ h.kids,h.z⟩;simp at hb;subst hb;have:=(h.own.lt _ e).1;omega
theorem Rw.apart (h:Rw E c w1 v ps ts qs us w) {hi:Nat} (hh:hi<=w'.heap.size):∀ b,within w.heap.size hi b->NI w1 v w' b:=fun b hb=>by
 have h1:=h.fr.size;obtain⟨b1,b2⟩:=hb;refine⟨Cs,Cs,fun e=>?_⟩;have:=(h.own.lt _ e).2;omega
theorem Rw.kid (h:Rw E c w1 v ps ts qs us w) (hf:Fr [c] w w') (hn:EA w' w.heap.size w'.heap.size q u):Rw E c w1 v ps ts (qs++[q]) (us++[u]) w':=by
 have h':=Rw.later w w' h hf;exact⟨h'.fr,h'.cw,h'.own,h'.old,fA.append h'.kids ⟨nA.kept (fun _ _=>rfl) (h.apart (C' _)) q u hn,trivial⟩,h.z⟩
theorem Rw.drop (h:Rw E c w1 v ps ts (qs++[q]) (us++[u]) w):Rw E c w1 v ps ts qs us w:=⟨h.fr,h.cw,h.own,h.old,h.kids.dropLast,h.z⟩
theorem Rw.lit (h:Rw E c w1 OE [] [] qs us w) (hsm:qs.length<=maxLen) (hzz:E.zo=none∨E.zb < w.heap.size):Rw E c w1 (.slice (some (y8 w.heap.size 0)) qs.length qs.length) qs us [] [] (w.alloc (.cells (GB qs).toArray 44)):=by
 have hB:=(N' w.heap.size w).alloc (C' _) (Obj.cells (GB qs).toArray 44);have hz:=h.fr.size;refine⟨h.fr.trans (lA c hB),h.cw,⟨by simp [DJ],.inr ⟨w.heap.size,qs.length,(GB qs).toArray,rfl,hz,B8 w _,C' _,hsm,by simp [DJ],?_⟩⟩,?_,trivial,hzz.imp id (fun h e=>by simp [Value.ownBlock] at e;omega)⟩
 ·rw [Nat.mul_one,Au (by simp [DJ])]
 ·refine fA.kept (fun b hb=>hB.block b hb.2.1) (fun b hb=>⟨hb.1,by have:=hb.2.1;simp;omega,fun e=>?_⟩) _ _ h.kids;simp [Value.ownBlock] at e;have:=hb.2.1;omega
theorem Rw.more {v5:Value}{w5:World} (h:Rw E c w1 v ps ts [q] [u] w) (hf:Fr [c] w1 w5)
  (hown:w5.ownsRow w1.heap.size 44 1 v5 (ps.length+1) (GB ps++GB [q])) (hk:∀ b,b < w.heap.size->v.ownBlock≠some b->w5.heap[b]?=w.heap[b]?) (hs:w.heap.size<=w5.heap.size)
  (hat:v5.ownBlock=v.ownBlock∨∃ b,v5.ownBlock=some b/\w.heap.size<=b) (hzz:E.zo=none∨E.zb < w.heap.size):Rw E c w1 v5 (ps++[q]) (ts++[u]) [] [] w5:=by
 have h5:∀ b,NI w1 v w b->NI w1 v5 w5 b:=by
  intro b hb;refine⟨hb.1,Aj hb.2.1 hs,fun e=>?_⟩;rcases hat with x|⟨b',x,hx⟩
  ·exact hb.2.2 (x ▸ e)
  ·rw [x] at e;cases e;have:=hb.2.1;omega
 have hk':∀ b,NI w1 v w b->w5.heap[b]?=w.heap[b]?:=fun b hb=>hk b hb.2.1 hb.2.2
 refine⟨hf,h.cw,?_,fA.append (fA.kept hk' h5 _ _ h.old) (fA.kept hk' h5 _ _ h.kids),trivial,?_⟩
 ·rw [V',show GB (ps++[q])=GB ps++GB [q] from by simp [GB]];exact hown
 ·rcases h.z with z|z
  ·exact .inl z
  ·rcases hat with x|⟨b',x,hx⟩
   ·exact .inr (by rw [x];exact z)
   ·exact hzz.imp id (fun h e=>by rw [x] at e;cases e;omega)
theorem Rw.row (h:Rw E c w1 v ps ts qs us w):∃ (ka:Option Addr) (cap:Nat),v=.slice ka ps.length cap/\rM w w1.heap.size w.heap.size ka ps/\iG w w1.heap.size w.heap.size ps ts:=by
 obtain⟨a,cap,rfl⟩:=xB h.own;exact⟨a,cap,rfl,rM.of_own h.own (C' _),fA.kept (fun _ _=>rfl) (fun b hb=>⟨hb.1,hb.2.1⟩) _ _ h.old⟩
theorem Rw.tree (h:Rw E c w1 v ps ts [q] [u] w):EA w w1.heap.size w.heap.size q u:=nA.kept (fun _ _=>rfl) (fun b hb=>⟨hb.1,hb.2.1⟩) q u h.kids.1
end
theorem yL {E:Ev}{c n:Nat}{g:Bool}{w:World} (h:Rd E c n g w) {lo p:Nat}{k:UInt8}{wd:Int}{f t:Nat}{ps:List Nat}{kv:Value} (ho:Opn w lo p k wd f t ps kv) (hlo:c < lo) (hz:E.zo=none∨(E.zb≠p/\kv.ownBlock≠some E.zb)) :
  Calls Tryz.prog 80 #[p8 c,p8 p,.slice none 0 0] w (ZV E c n g lo p k wd f ps kv w):=by
 obtain⟨iP,hiP,hz0,hz1,hz2⟩:=info_parts Tryz.infoP;obtain⟨va,vc,rfl⟩:=xB ho.row;obtain⟨k0,k1,k2,k3,k4⟩:=ho.blk.cells;have hrow:=ho.row;have HR:=hid h;have HO:=hid ho;have HZZ:=hid hz;clear hz;have f4:=HO.out.blk.free 4;clear h ho
 go_in
 go_upto_region 2 with (at_builtin;refine wpList_append_own_none rfl _ _ 52 rfl lo 44 iP 1 Tryz.underlying52 hiP _ _ _ rfl hrow rfl ?_);have hO2:=HO.out.blk.kids (.slice va ps.length vc);have hF2:Fr [p] w (w.setCell (y8 p 4) (.slice va ps.length vc)):=Fr.set (a:=(y8 p 4));have hcp:c < p:=by have:=HO.out.low;omega
 have hR2:=HR.out.later hF2 (fun k hk=>Dj) (HZZ.out.imp id (fun h m=>h.1 Gq));have hrow2:=pD hrow hF2 (fun b' hb'=>Ir);clear f4 hrow k0 k1 k2 k3 k4;generalize w.setCell (y8 p 4) (.slice va ps.length vc)=w2 at *;obtain⟨h0,h1,h2,h3,h4⟩:=hR2.cells;obtain⟨l0,l1,l2,l3,l4⟩:=hO2.cells;have f3:=hO2.free 3;have HZ:=hid (Az hO2 (Az hR2 (Az hrow2 (Az hF2 hcp))));clear hO2 hR2 hrow2 hF2 hcp;go_wp2_with fail;go_ret;obtain⟨hO2,hR2,hrow2,hF2,hcp⟩:=HZ.out;have hF3:Fr [p] w2 (w2.setCell (y8 p 3) (i8 (n:Int))):=Fr.set (a:=(y8 p 3));refine⟨rfl,⟨_,hO2.end_ n,?_,HO.out.low,HO.out.sep⟩,hR2.later hF3 (fun k hk=>Dj) (HZZ.out.imp id (fun h m=>h.1 Gq)),(hF2.trans hF3).weaken (fun k _ hk=>Dv)⟩;exact pD hrow2 hF3 (fun b' hb'=>Ir)
end
section
open Go.RowKit
def xD:F->FuncId
 | .group=>77|.fn=>79|.signature=>111|.params=>126
 | .tparams=>127|.names=>152|.union=>153|.typ=>39|.typeName=>109
 | .exprs=>205|.types=>241|.expr=>40|.unary=>116|.operand=>188|.primary=>154
 | .elements=>195|.value=>268|.stmts=>41|.block=>128|.stmt=>119
 | .declared=>196|.started=>197|.returned=>198|.branch=>199|.simple=>157
 | .ifs=>200|.switches=>201|.selects=>202|.fors=>203
 | .one .param=>161|.one .field=>113|.one .elem=>114|.one .element=>236
 | .one .importSpec=>122|.one .constSpec=>123|.one .typeSpec=>124|.one .valueSpec=>121
 | .one .expr=>40|.one .typ=>39|.cased s=>if s=1 then 205 else if s=2 then 241 else 157
 | _=>0
abbrev fE (E:Ev) (c:Nat) (g:Bool) (r:R Tr) (w0:World) (p:Nat) (e:Ending) (w':World):Prop:=XJ (fun q=>q=p) E c g r w0 e w'
def cJ (E:Ev) (c:Nat) (g:Bool) (r:R Tr) (w0:World) (p:Nat) (e:Ending) (w':World):Prop :=
 match r with
 | .ok t n=>e=.returned (.tuple #[])/\Rd E c n g w'/\EA w' w0.heap.size w'.heap.size p t/\Fr [c] w0 w'
 | .bad k=>e=Up k/\(∃ g',Rd E c k g' w')/\Fr [c] w0 w'
 | .out=>False
def eY:One->FuncId|.field=>113|_=>114
def okM:One->Bool|.field=>true|.elem=>true|_=>false
structure aB (E:Ev) (S:AB):Prop where
 t:∀ f c n g w,xD f≠0->pre E.toEnv f n->Rd E c n g w->S.t f n g≠.out->Calls Tryz.prog (xD f) #[p8 c] w (Ans E c g (S.t f n g) w)
 b:∀ (least:Nat) c n g w,1<=least->least<=100->Rd E c n g w->S.t (.binary least) n g≠.out->Calls Tryz.prog 71 #[p8 c,i8 (least:Int)] w (Ans E c g (S.t (.binary least) n g) w)
 row:∀ fr c n w0 w p t0,Rd E c n false w->Nd E c w0 p 0 (-1) fr t0 OE [] [] [] [] w->S.t (.row fr) n false≠.out ->
  Calls Tryz.prog 110 #[p8 c,p8 p] w (Ans E c false (S.t (.row fr) n false) w0)
 members:∀ kd o c n g w0 w p k wd fr t0,okM o=true->Rd E c n g w->Nd E c w0 p k wd fr t0 OE [] [] [] [] w->S.t (.members kd o) n g≠.out ->
  Calls Tryz.prog 112 #[p8 c,p8 p,.int .u8 (kd.toNat:Int),.func (.func (eY o)) #[p8 c] #[]] w
   (Ans E c g ((S.t (.members kd o) n g).andThen fun m n1=>.ok (.mk k wd fr n1 [m]) n1) w0)
 dot:∀ fr x c n g w0 w p t0 kv q,n < E.l.length->Rd E c n g w->Nd E c w0 p 0 (-1) fr t0 kv [q] [x] [] [] w->S.t (.dot fr x) n g≠.out ->
  Calls Tryz.prog 189 #[p8 c,p8 p] w (cJ E c g (S.t (.dot fr x) n g) w0 p)
 call:∀ fr x c n g w0 w p t0 kv q,n < E.l.length->Rd E c n g w->Nd E c w0 p 0 (-1) fr t0 kv [q] [x] [] [] w->S.t (.call fr x) n g≠.out ->
  Calls Tryz.prog 191 #[p8 c,p8 p] w (fE E c g (S.t (.call fr x) n g) w0 p)
 index:∀ fr x c n g w0 w p t0 kv q,n < E.l.length->Rd E c n g w->Nd E c w0 p 0 (-1) fr t0 kv [q] [x] [] [] w->S.t (.index fr x) n g≠.out ->
  Calls Tryz.prog 193 #[p8 c,p8 p] w (fE E c g (S.t (.index fr x) n g) w0 p)
 slice:∀ fr x lo c n g w0 w p k t0 kv q ql,Rd E c n g w->Nd E c w0 p k (-1) fr t0 kv [q] [x] [ql] [lo] w->S.t (.slice fr x lo) n g≠.out ->
  Calls Tryz.prog 233 #[p8 c,p8 p,p8 ql] w (fE E c g (S.t (.slice fr x lo) n g) w0 p)
 rest:∀ fr left c n g w0 w p t0 ql,Rd E c n g w->Nd E c w0 p 0 (-1) fr t0 OE [] [] [ql] [left] w->S.t (.rest fr left) n g≠.out ->
  Calls Tryz.prog 204 #[p8 c,p8 p,p8 ql] w (fE E c g (S.t (.rest fr left) n g) w0 p)
 overall:∀ fr wd left c n g w0 w p k t0 ql,Rd E c n g w->Nd E c w0 p k wd fr t0 OE [] [] [ql] [left] w->S.t (.overall fr wd left) n g≠.out ->
  Calls Tryz.prog 242 #[p8 c,p8 p,p8 ql] w (Ans E c g (S.t (.overall fr wd left) n g) w0)
 clauses:∀ (kd:UInt8) sort c n g w,(sort=1∨sort=2∨sort=3)->Rd E c n g w->S.t (.clauses kd sort) n g≠.out ->
  Calls Tryz.prog 239 #[p8 c,.int .u8 (kd.toNat:Int),.func (.func (xD (.cased sort))) #[p8 c] #[]] w (Ans E c g (S.t (.clauses kd sort) n g) w)
structure Sx (E:Ev) (c n:Nat) (g:Bool) (w0:World) (P:World->Prop) (T X:R Tr) (w:World):Prop where
 rd:Rd E c n g w
 fr:Fr [c] w0 w
 cw:c < w0.heap.size
 ex:P w
 keep:∀ w w',P w->Fr [c] w w'->P w'
 eq:T=X
 ne:T≠.out
theorem Ans.shape {E:Ev}{c:Nat}{g:Bool}{w:World}{r:R Tr}{e:Ending}{w':World} (h:Ans E c g r w e w'):(∃ p,e=.returned (p8 p))∨(∃ k,e=Up k):=by
 cases r with
 | ok t m=>obtain⟨p,h,_⟩:=h;exact .inl ⟨p,h⟩
 | bad k=>exact .inr ⟨k,h.1⟩
 | out=>exact h.elim
theorem New.ans {E:Ev}{c n:Nat}{g:Bool}{w:World}{k:UInt8}{e:Ending}{w':World} (h:New E c n g k (-1) n n w e w'):Ans E c g (.ok (vA k n) n) w e w':=by
 obtain⟨p,a0,a1,a2,a3,a4⟩:=h;exact⟨p,a0,a3,EG a2 a1 a2.lt,lA c a4⟩
section
variable {E:Ev}{S:AB}{c n:Nat}{g:Bool}{w0:World}{P:World->Prop}{T X:R Tr}{w:World}{Q:Ending->World->Prop}
theorem Sx.start (h:Rd E c n g w) (hr:T≠.out) (hX:T=X):Hid (Sx E c n g w (fun _=>True) T X w):=⟨h,Fr.refl _ _,h.lt,trivial,fun _ _ _ _=>trivial,hX,hr⟩
theorem Sx.free (h:Hid (Sx E c n g w0 P T X w)):Hid (Sx E c n g w0 (fun _=>True) T X w):=⟨h.out.rd,h.out.fr,h.out.cw,trivial,fun _ _ _ _=>trivial,h.out.eq,h.out.ne⟩
theorem Sx.re {Y:R Tr} (h:Hid (Sx E c n g w0 P T X w)) (e:X=Y):Hid (Sx E c n g w0 P T Y w):=Iv
theorem Sx.pos {A B:R Tr}{b:Prop} [Decidable b] (h:Hid (Sx E c n g w0 P T (if b then A else B) w)) (hb:b):Hid (Sx E c n g w0 P T A w):=Sx.re h (Bb hb)
theorem Sx.step {m:Nat}{w':World}{Y:R Tr} (h:Sx E c n g w0 P T X w) (hf:Fr [c] w w') (hr:Rd E c m g w') (he:X=Y):Sx E c m g w0 P T Y w' :=
 ⟨hr,h.fr.trans hf,h.cw,h.keep _ _ h.ex hf,h.keep,h.eq.trans he,h.ne⟩
theorem Sx.below {w':World} (h:Sx E c n g w0 P T X w) (hb:Below w.heap.size w w'):Sx E c n g w0 P T X w':=h.step (lA c hb) (h.rd.below hb) rfl
theorem Sx.bad {k:Nat}{w':World} (h:Sx E c n g w0 P T X w) (he:X=.bad k) (hr:∃ g',Rd E c k g' w') (hf:Fr [c] w w'):Ans E c g T w0 (Up k) w':=by
 rw [h.eq,he];exact⟨rfl,hr,h.fr.trans hf⟩
theorem Sx.with {P':World->Prop} (h:Sx E c n g w0 P T X w) (hP:P' w) (hk:∀ w w',P' w->Fr [c] w w'->P' w'):Sx E c n g w0 P' T X w:=⟨h.rd,h.fr,h.cw,hP,hk,h.eq,h.ne⟩
theorem yB (h:Hid (Sx E c n g w0 P T X w)) (k:UInt8) (hQ:∀ p w',Hid (Sx E c n g w0 (Nd E c w0 p k (-1) n 0 OE [] [] [] []) T X w')->Q (.returned (p8 p)) w') :
  Calls Tryz.prog 73 #[p8 c,.int .u8 (k.toNat:Int)] w Q:=by
 refine (uP h.out.rd k).mono ?_;rintro e w' ⟨p,rfl,a1,a2,a3,a4⟩;exact hQ p w' ((h.out.step (lA c a4) a3 rfl).with (Nd.new (h.out.fr.trans (lA c a4)) h.out.cw (by have:=h.out.fr.size;omega) a2 (h.out.rd.zlt.imp id (fun h=>Cs))) Nd.later)
theorem TK (h:Hid (Sx E c n g w0 P T X w)) (k:UInt8) (hQ:∀ p w',Hid (Sx E c n g w0 (Nd E c w p k (-1) n 0 OE [] [] [] []) T X w')->Q (.returned (p8 p)) w') :
  Calls Tryz.prog 73 #[p8 c,.int .u8 (k.toNat:Int)] w Q:=by
 refine (uP h.out.rd k).mono ?_;rintro e w' ⟨p,rfl,a1,a2,a3,a4⟩;exact hQ p w' ((h.out.step (lA c a4) a3 rfl).with (Nd.new (lA c a4) h.out.rd.lt a1 a2 (h.out.rd.zlt.imp id (fun h=>Cs))) Nd.later)
theorem FA {K:Unit->Nat->R Tr}{x:UInt8}{ws:List UInt8} (h:Hid (Sx E c n g w0 P T ((want E.toEnv (x::ws) n).andThen K) w))
  (hB:∀ k w',Ans E c g T w0 (Up k) w'->Q (Up k) w') (hQ:∀ n' w',Hid (Sx E c n' g w0 P T (K () n') w')->Q (.returned (.tuple #[])) w') :
  Calls Tryz.prog 74 #[p8 c,.string ⟨(x::ws).toArray⟩] w Q:=by
 refine (NH h.out.rd x ws).mono ?_;intro e w' hD;have hh:=h.out;cases h1:want E.toEnv (x::ws) n with
 | out=>rw [h1] at hD;exact hD.elim
 | bad k=>rw [h1] at hD hh;obtain⟨rfl,q1,q2⟩:=hD;exact hB k w' (hh.bad rfl q1 q2)
 | ok u m=>rw [h1] at hD hh;obtain⟨rfl,q1,q2⟩:=hD;exact hQ m w' (hh.step q2 q1 rfl)
theorem cA (h:Hid (Sx E c n g w0 P T X w)) (hQ:∀ w',Hid (Sx E c n g w0 P T X w')->Q (.returned (.string ⟨(E.word (n:Int)).toArray⟩)) w') :
  Calls Tryz.prog 76 #[p8 c] w Q:=by
 refine (pE h.out.rd).mono ?_;rintro e w' ⟨rfl,hb⟩;exact hQ w' (h.out.below hb)
theorem OA (h:Hid (Sx E c n g w0 P T X w)) (i:Int) (hQ:∀ w',Hid (Sx E c n g w0 P T X w')->Q (.returned (.string ⟨(E.word i).toArray⟩)) w') :
  Calls Tryz.prog 21 #[p8 c,i8 i] w Q:=by
 refine (BH E c i w h.out.rd.cells.1 h.out.rd.cells.2.1 h.out.rd.lie).mono ?_;rintro e w' ⟨rfl,hb⟩;exact hQ w' (h.out.below hb)
theorem RB (h:Hid (Sx E c n g w0 P T X w)) (i:Int) (b:Bool) (hb:E.named i=b) (hQ:∀ w',Hid (Sx E c n g w0 P T X w')->Q (.returned (.bool b)) w') :
  Calls Tryz.prog 108 #[p8 c,i8 i] w Q:=by
 subst hb;refine (eK h.out.rd i).mono ?_;rintro e w' ⟨rfl,hb⟩;exact hQ w' (h.out.below hb)
theorem QY (h:Hid (Sx E c n g w0 P T X w)) (i:Int) (b:Bool) (hb:E.quoted i=b) (hQ:∀ w',Hid (Sx E c n g w0 P T X w')->Q (.returned (.bool b)) w') :
  Calls Tryz.prog 185 #[p8 c,i8 i] w Q:=by
 subst hb;refine (VI h.out.rd i).mono ?_;rintro e w' ⟨rfl,hb⟩;exact hQ w' (h.out.below hb)
theorem AD (h:Hid (Sx E c n g w0 P T X w)) (b:Bool) (hb:E.ended n=b) (hQ:∀ w',Hid (Sx E c n g w0 P T X w')->Q (.returned (.bool b)) w') :
  Calls Tryz.prog 44 #[p8 c] w Q:=by
 subst hb;refine (tT h.out.rd).mono ?_;rintro e w' ⟨rfl,hb⟩;exact hQ w' (h.out.below hb)
theorem vE {x:UInt8}{ws:List UInt8} (h:Hid (Sx E c n g w0 P T X w)) (h1:E.is n (x::ws)=true) (hQ:∀ n' w',n'=n+1->Hid (Sx E c n' g w0 P T X w')->Q (.returned (.bool true)) w') :
  Calls Tryz.prog 43 #[p8 c,.string ⟨(x::ws).toArray⟩] w Q:=by
 refine (aK h.out.rd x ws).mono ?_;rintro e w' ⟨rfl,q1,q2⟩;have ha:after E.toEnv (x::ws) n=n+1:=by unfold after;rw [Bb h1]
 rw [ha] at q1;rw [h1];exact hQ _ w' rfl (h.out.step q2 q1 rfl)
theorem gH {x:UInt8}{ws:List UInt8} (h:Hid (Sx E c n g w0 P T X w)) (h1:E.is n (x::ws)=false) (hQ:∀ w',Hid (Sx E c n g w0 P T X w')->Q (.returned (.bool false)) w') :
  Calls Tryz.prog 43 #[p8 c,.string ⟨(x::ws).toArray⟩] w Q:=by
 refine (aK h.out.rd x ws).mono ?_;rintro e w' ⟨rfl,q1,q2⟩;have ha:after E.toEnv (x::ws) n=n:=by unfold after;rw [Bc (by rw [h1];decide)]
 rw [ha] at q1;rw [h1];exact hQ w' (h.out.step q2 q1 rfl)
theorem IY {x:UInt8}{ws:List UInt8} (h:Hid (Sx E c n g w0 P T X w)) (hQ:∀ w',Hid (Sx E c (after E.toEnv (x::ws) n) g w0 P T X w')->Q (.returned (.bool (E.is n (x::ws)))) w') :
  Calls Tryz.prog 43 #[p8 c,.string ⟨(x::ws).toArray⟩] w Q:=by
 refine (aK h.out.rd x ws).mono ?_;rintro e w' ⟨rfl,q1,q2⟩;exact hQ w' (h.out.step q2 q1 rfl)
theorem nO {x:UInt8}{ws:List UInt8} (h:Hid (Sx E c n g w0 P T X w)) (hQ:∀ n' b w',n'=after E.toEnv (x::ws) n->Hid (Sx E c n' g w0 P T X w')->Q (.returned (.bool b)) w') :
  Calls Tryz.prog 43 #[p8 c,.string ⟨(x::ws).toArray⟩] w Q:=IY h (fun w' hh=>hQ _ _ w' rfl hh)
theorem rG (h:Hid (Sx E c n g w0 P T (.bad n) w)) (hB:∀ k w',Ans E c g T w0 (Up k) w'->Q (Up k) w'):Calls Tryz.prog 45 #[p8 c] w Q:=by
 refine (VH h.out.rd).mono ?_;rintro e w' ⟨rfl,rfl⟩;exact hB n w' (h.out.bad rfl ⟨g,h.out.rd⟩ (Fr.refl _ _))
theorem Sx.ans {r:R Tr}{K:Tr->Nat->R Tr}{e:Ending}{w':World} (h:Sx E c n g w0 P T (r.andThen K) w) (hA:Ans E c g r w e w')
  (hB:∀ k w',Ans E c g T w0 (Up k) w'->Q (Up k) w') (hQ:∀ q u n' w',Sx E c n' g w0 P T (K u n') w'->EA w' w.heap.size w'.heap.size q u->P w->Fr [c] w w'->Q (.returned (p8 q)) w'):Q e w':=by
 cases r with
 | out=>exact hA.elim
 | bad k=>obtain⟨rfl,q1,q2⟩:=hA;exact hB k w' (h.bad rfl q1 q2)
 | ok u m=>obtain⟨q,rfl,q1,q2,q3⟩:=hA;exact hQ q u m w' (h.step q3 q1 rfl) q2 h.ex q3
end
section
variable {E:Ev}{S:AB}{c n:Nat}{g:Bool}{w0 w1:World}{p:Nat}{k:UInt8}{wd:Int}{f t:Nat}{kv v:Value}{ps0:List Nat}{ts0:List Tr}{ps:List Nat}{ts:List Tr}{rs:List Nat}{us:List Tr}{T X:R Tr}{w:World}{Q:Ending->World->Prop}
theorem IX {P:World->Prop}{P':Nat->Tr->World->Prop}{fn:FuncId}{args:Array Value}{r:R Tr}{K:Tr->Nat->R Tr} (h:Hid (Sx E c n g w0 P T (r.andThen K) w)) (hC:r≠.out->Calls Tryz.prog fn args w (Ans E c g r w))
  (hP:∀ q u w',P w->Fr [c] w w'->EA w' w.heap.size w'.heap.size q u->P' q u w') (hK:∀ q u w w',P' q u w->Fr [c] w w'->P' q u w')
  (hB:∀ k w',Ans E c g T w0 (Up k) w'->Q (Up k) w') (hQ:∀ q u n' w',Hid (Sx E c n' g w0 (P' q u) T (K u n') w')->Q (.returned (p8 q)) w'):Calls Tryz.prog fn args w Q:=by
 refine (hC (fun e=>h.out.ne Eo)).mono ?_;intro e w' hA;exact h.out.ans hA hB (fun q u n' w' a b d e=>hQ q u n' w' (a.with (hP q u w' d e b) (hK q u)))
theorem TB {fn:FuncId}{args:Array Value}{r:R Tr}{K:Tr->Nat->R Tr} (h:Hid (Sx E c n g w0 (Nd E c w1 p k wd f t kv ps0 ts0 ps ts) T (r.andThen K) w)) (hC:r≠.out->Calls Tryz.prog fn args w (Ans E c g r w))
  (hB:∀ k w',Ans E c g T w0 (Up k) w'->Q (Up k) w')
  (hQ:∀ q u n' w',Hid (Sx E c n' g w0 (Nd E c w1 p k wd f t kv ps0 ts0 (ps++[q]) (ts++[u])) T (K u n') w')->Q (.returned (p8 q)) w'):Calls Tryz.prog fn args w Q :=
 IX h hC (fun _ _ _ d e b=>d.kid e b) (fun _ _=>Nd.later) hB hQ
theorem lL {fn:FuncId}{args:Array Value}{r:R Tr}{K:Tr->Nat->R Tr} (h:Hid (Sx E c n g w0 (Rw E c w1 v ps ts rs us) T (r.andThen K) w)) (hC:r≠.out->Calls Tryz.prog fn args w (Ans E c g r w))
  (hB:∀ k w',Ans E c g T w0 (Up k) w'->Q (Up k) w')
  (hQ:∀ q u n' w',Hid (Sx E c n' g w0 (Rw E c w1 v ps ts (rs++[q]) (us++[u])) T (K u n') w')->Q (.returned (p8 q)) w'):Calls Tryz.prog fn args w Q :=
 IX h hC (fun _ _ _ d e b=>d.kid e b) (fun _ _=>Rw.later) hB hQ
theorem jA {K:Tr->Nat->R Tr}{F:F} (h:Hid (Sx E c n g w0 (Nd E c w1 p k wd f t kv ps0 ts0 ps ts) T ((S.t F n g).andThen K) w)) (hD:Hid (aB E S)) (hf:xD F≠0) (hs:NF F=false/\okF F=true)
  (hB:∀ k w',Ans E c g T w0 (Up k) w'->Q (Up k) w')
  (hQ:∀ q u n' w',Hid (Sx E c n' g w0 (Nd E c w1 p k wd f t kv ps0 ts0 (ps++[q]) (ts++[u])) T (K u n') w')->Q (.returned (p8 q)) w') :
  Calls Tryz.prog (xD F) #[p8 c] w Q :=
 TB h (hD.out.t F c n g w hf (DA hs.1 h.out.rd.at_ hs.2) h.out.rd) hB hQ
theorem lG {K:Tr->Nat->R Tr} (h:Hid (Sx E c n g w0 (Nd E c w1 p k wd f t kv ps0 ts0 ps ts) T ((LC E.toEnv n).andThen K) w)) (hB:∀ k w',Ans E c g T w0 (Up k) w'->Q (Up k) w')
  (hQ:∀ q u n' w',Hid (Sx E c n' g w0 (Nd E c w1 p k wd f t kv ps0 ts0 (ps++[q]) (ts++[u])) T (K u n') w')->Q (.returned (p8 q)) w') :
  Calls Tryz.prog 75 #[p8 c] w Q :=
 TB h (fun _=>yJ h.out.rd) hB hQ
theorem kW {K:Tr->Nat->R Tr} (h:Hid (Sx E c n g w0 (Nd E c w1 p k wd f t kv ps0 ts0 ps ts) T ((TH E.toEnv n).andThen K) w)) (hB:∀ k w',Ans E c g T w0 (Up k) w'->Q (Up k) w')
  (hQ:∀ q u n' w',Hid (Sx E c n' g w0 (Nd E c w1 p k wd f t kv ps0 ts0 (ps++[q]) (ts++[u])) T (K u n') w')->Q (.returned (p8 q)) w') :
  Calls Tryz.prog 159 #[p8 c] w Q :=
 TB h (fun _=>FN h.out.rd) hB hQ
theorem IA (h:Hid (Sx E c n g w0 (Nd E c w1 p k wd f t kv ps0 ts0 ps ts) T X w)) (k2:UInt8)
  (hQ:∀ q w',Hid (Sx E c n g w0 (Nd E c w1 p k wd f t kv ps0 ts0 (ps++[q]) (ts++[vA k2 n])) T X w')->Q (.returned (p8 q)) w') :
  Calls Tryz.prog 118 #[p8 c,.int .u8 (k2.toNat:Int)] w Q:=by
 refine (wJ h.out.rd k2).mono ?_;rintro e w' ⟨q,rfl,a1,a2,a3,a4⟩;exact hQ q w' ((h.out.below a4).with (h.out.ex.kid (lA c a4) (EG a2 a1 a2.lt)) Nd.later)
theorem pB {q:Nat}{u:Tr} (h:Hid (Sx E c n g w0 (Nd E c w1 p k wd f t kv ps0 ts0 (ps++[q]) (ts++[u])) T X w)):Hid (Sx E c n g w0 (Nd E c w1 p k wd f t kv ps0 ts0 ps ts) T X w):=h.out.with h.out.ex.drop Nd.later
theorem iF {K:Tr->Nat->R Tr}{F:F} (h:Hid (Sx E c n g w0 (Rw E c w1 v ps ts rs us) T ((S.t F n g).andThen K) w)) (hD:Hid (aB E S)) (hf:xD F≠0) (hs:NF F=false/\okF F=true)
  (hB:∀ k w',Ans E c g T w0 (Up k) w'->Q (Up k) w')
  (hQ:∀ q u n' w',Hid (Sx E c n' g w0 (Rw E c w1 v ps ts (rs++[q]) (us++[u])) T (K u n') w')->Q (.returned (p8 q)) w') :
  Calls Tryz.prog (xD F) #[p8 c] w Q :=
 lL h (hD.out.t F c n g w hf (DA hs.1 h.out.rd.at_ hs.2) h.out.rd) hB hQ
theorem iH {K:Tr->Nat->R Tr}{F:F} (h:Hid (Sx E c n g w0 (Rw E c w1 v ps ts rs us) T ((S.t F n g).andThen K) w)) (hD:Hid (aB E S)) (hf:xD F≠0) (hs:okF F=true) (hlt:Hid (n < E.l.length))
  (hB:∀ k w',Ans E c g T w0 (Up k) w'->Q (Up k) w')
  (hQ:∀ q u n' w',Hid (Sx E c n' g w0 (Rw E c w1 v ps ts (rs++[q]) (us++[u])) T (K u n') w')->Q (.returned (p8 q)) w') :
  Calls Tryz.prog (xD F) #[p8 c] w Q :=
 lL h (hD.out.t F c n g w hf (SF hlt.out hs) h.out.rd) hB hQ
theorem RK {K:Tr->Nat->R Tr} (h:Hid (Sx E c n g w0 (Rw E c w1 v ps ts rs us) T ((LC E.toEnv n).andThen K) w)) (hB:∀ k w',Ans E c g T w0 (Up k) w'->Q (Up k) w')
  (hQ:∀ q u n' w',Hid (Sx E c n' g w0 (Rw E c w1 v ps ts (rs++[q]) (us++[u])) T (K u n') w')->Q (.returned (p8 q)) w') :
  Calls Tryz.prog 75 #[p8 c] w Q :=
 lL h (fun _=>yJ h.out.rd) hB hQ
theorem sS (h:Hid (Sx E c n g w0 (Rw E c w1 v ps ts rs us) T X w)) (k2:UInt8)
  (hQ:∀ q w',Hid (Sx E c n g w0 (Rw E c w1 v ps ts (rs++[q]) (us++[vA k2 n])) T X w')->Q (.returned (p8 q)) w') :
  Calls Tryz.prog 118 #[p8 c,.int .u8 (k2.toNat:Int)] w Q:=by
 refine (wJ h.out.rd k2).mono ?_;rintro e w' ⟨q,rfl,a1,a2,a3,a4⟩;exact hQ q w' ((h.out.below a4).with (h.out.ex.kid (lA c a4) (EG a2 a1 a2.lt)) Rw.later)
theorem BX {q:Nat}{u:Tr} (h:Hid (Sx E c n g w0 (Rw E c w1 v ps ts (rs++[q]) (us++[u])) T X w)):Hid (Sx E c n g w0 (Rw E c w1 v ps ts rs us) T X w):=h.out.with h.out.ex.drop Rw.later
theorem Sx.own {k':UInt8}{wd':Int}{f' t':Nat}{w':World} (h:Sx E c n g w0 (Nd E c w1 p k wd f t kv ps0 ts0 ps ts) T X w) (h01:w0.heap.size<=w1.heap.size) (hf:Fr [p] w w') (ho:YC w' p k' wd' f' t' kv) :
  Sx E c n g w0 (Nd E c w1 p k' wd' f' t' kv ps0 ts0 ps ts) T X w':=by
 have h1:=h.ex.cw;have h2:=h.ex.opn.low;exact⟨h.rd.later hf (fun x hx=>Lf) (h.ex.z.imp id (fun h m=>h.1 Gq)),h.fr.trans' hf (fun i hi=>.inr F4),h.cw,h.ex.own hf ho,Nd.later,h.eq,h.ne⟩
theorem ZA {P:World->Prop} (h:Hid (Sx E c n g w0 P T X w)) (hlt:Hid (n < E.l.length)):Hid (Sx E c (n+1) g w0 P T X (w.setCell (y8 c 3) (i8 ((n:Int)+1)))) :=
 h.out.step (NA c 3 w _) (by simpa using h.out.rd.moved (n+1) (by have:=hlt.out;omega)) rfl
theorem oD (h:Hid (Sx E c n g w0 (Nd E c w1 p k wd f t kv ps0 ts0 ps ts) T X w)) (wd':Int) (h01:w0.heap.size<=w1.heap.size:=by exact C' _):Hid (Sx E c n g w0 (Nd E c w1 p k wd' f t kv ps0 ts0 ps ts) T X (w.setCell (y8 p 1) (i8 wd'))) :=
 h.out.own h01 (NA p 1 w _) (h.out.ex.opn.blk.named_ wd')
theorem dB (h:Hid (Sx E c n g w0 (Nd E c w1 p k wd f t kv ps0 ts0 ps ts) T X w)) (k':UInt8) (h01:w0.heap.size<=w1.heap.size:=by exact C' _):Hid (Sx E c n g w0 (Nd E c w1 p k' wd f t kv ps0 ts0 ps ts) T X (w.setCell (y8 p 0) (.int .u8 (k'.toNat:Int)))) :=
 h.out.own h01 (NA p 0 w _) (h.out.ex.opn.blk.kinded k')
theorem PH {w':World}{kv':Value} (hn:Nd E c w1 p k wd f t kv ps0 ts0 ps ts w) (hO:Opn w' w1.heap.size p k wd f n (ps0++ps) kv') (hF:Fr (p::YD kv) w w') (hR:Rd E c n g w') :
  Ans E c g (.ok (.mk k wd f n (ts0++ts)) n) w1 (.returned (p8 p)) w':=by
 have hk:∀ b,ndD w1 p kv w b->w'.heap[b]?=w.heap[b]?:=fun b hb=>hF.block b hb.2.1 (fun m=>by
  rcases List.mem_cons.1 m with e|e
  ·exact hb.2.2.1 e
  ·unfold YD at e;split at e
   ·rename_i b2 hb2;simp at e;subst e;exact hb.2.2.2 hb2
   ·simp at e)
 have hX:∀ i∈p::YD kv,i∈[c]∨w1.heap.size<=i:=fun i m=>by
  rcases List.mem_cons.1 m with e|e
  ·right;rw [e];exact hn.opn.low
  ·unfold YD at e;split at e
   ·rename_i b2 hb2;simp at e;subst e;right;exact (hn.opn.row.lt _ hb2).1
   ·simp at e
 have hD:∀ b,ndD w1 p kv w b->within w1.heap.size w'.heap.size b:=fun b hb=>⟨hb.1,Aj hb.2.1 hF.size⟩
 exact⟨p,rfl,hR,hO.tree (fA.append (fA.kept hk hD _ _ hn.old) (fA.kept hk hD _ _ hn.kids)),hn.fr.trans' hF hX⟩
theorem fE.mk (h:Ans E c g T w0 (.returned (p8 p)) w):fE E c g T w0 p (.returned (p8 p)) w:=⟨fun q e=>by simpa using e.symm,h⟩
theorem AJ (h:Rd E c n g w) (hn:Nd E c w1 p k wd f t kv ps0 ts0 ps ts w) (hsm:ps0.length+ps.length<=1000000) :
  Calls Tryz.prog 80 #[p8 c,p8 p,.slice (some (y8 w.heap.size 0)) ps.length ps.length] (w.alloc (.cells (GB ps).toArray 44))
   fun e w'=>e=.returned (p8 p)/\Ans E c g (.ok (.mk k wd f n (ts0++ts)) n) w1 e w':=by
 have hB:=(N' w.heap.size w).alloc (C' _) (Obj.cells (GB ps).toArray 44);have h1:=Nd.later w _ hn (lA c hB);have hcl:=rN (h.below hB) h1.opn h1.cw h1.z w.heap.size 0 ps ps.length (fun j q hj=>by
  rw [Nat.zero_add];have hx:=B8 w (Obj.cells (GB ps).toArray 44);unfold World.cell?;rw [hx];simp only [Option.isSome_none,Ba,Bf,M'];simp [GB,hj]) Cs
 refine hcl.mono ?_;rintro e w' ⟨rfl,⟨kv',hO⟩,hR,hF⟩;exact⟨rfl,PH h1 hO hF hR⟩
theorem NM (h:Rd E c n g w) (hn:Nd E c w1 p k wd f t kv ps0 ts0 [] [] w) :
  Calls Tryz.prog 80 #[p8 c,p8 p,OE] w
   fun e w'=>e=.returned (p8 p)/\Ans E c g (.ok (.mk k wd f n ts0) n) w1 e w':=by
 refine (yL h hn.opn hn.cw hn.z).mono ?_;rintro e w' ⟨rfl,⟨kv',hO⟩,hR,hF⟩;have:=PH hn (by rw [List.append_nil];exact hO) hF hR;rw [List.append_nil] at this;exact⟨rfl,this⟩
theorem eV.of_own {lo:Nat} (h:w.ownsRow lo 44 1 v ps.length (GB ps)):(v=OE/\ps=[])∨∃ b cap,v=.slice (some (y8 b 0)) ps.length cap/\∀ (j p:Nat),ps[j]?=some p->w.cell? (y8 b (0+j))=some (p8 p):=by
 rcases h.2 with ⟨h1,h2⟩|⟨b,cap,cur,hv,h1,h2,h3⟩
 ·exact .inl ⟨h1,Ac h2⟩
 ·refine .inr ⟨b,cap,hv,fun j p hj=>?_⟩;subst hv;have hjl:j < ps.length:=by
   exact zb2
  rw [Nat.zero_add,World.ownsRow.cellAt h j Cs];simp [GB,hj]
theorem Nd.join {w2:World} (hn:Nd E c w1 p k wd f t kv ps0 ts0 ps ts w2) {D:Nat->Prop} (hf:Fr [c] w2 w) (hk:fA w D rs us) (hd:∀ b,D b->w2.heap.size<=b/\b < w.heap.size):Nd E c w1 p k wd f t kv ps0 ts0 (ps++rs) (ts++us) w:=by
 have h':=Nd.later w2 w hn hf;exact⟨h'.fr,h'.cw,h'.opn,h'.old,fA.append h'.kids (fA.kept (fun _ _=>rfl) (fun b hb=>hn.apart (C' _) b (hd b hb)) _ _ hk),h'.z⟩
theorem QS {w2:World} (h:Rd E c n g w) (hn:Nd E c w1 p k wd f t kv ps0 ts0 [] [] w2) (hr:Rw E c w2 v rs us [] [] w) (hsm:ps0.length+rs.length<=1099511627776) :
  Calls Tryz.prog 80 #[p8 c,p8 p,v] w
   fun e w'=>e=.returned (p8 p)/\Ans E c g (.ok (.mk k wd f n (ts0++us)) n) w1 e w':=by
 have hj:=hn.join hr.fr hr.old (fun b hb=>⟨hb.1,hb.2.1⟩);rw [Ar,Ar] at hj;rcases eV.of_own hr.own with ⟨rfl,h0⟩|⟨b,cap,rfl,hc⟩
 ·subst h0;have hu:=fA.len hr.old;have hu0:us=[]:=Ac (by simpa using hu.symm);subst hu0;rw [List.append_nil];exact NM h hj
 ·refine (rN h hj.opn hj.cw hj.z b 0 rs cap hc hsm).mono ?_;rintro e w' ⟨rfl,⟨kv',hO⟩,hR,hF⟩;exact⟨rfl,PH hj hO hF hR⟩
theorem eA (h:Hid (Sx E c n g w0 (Nd E c w0 p k wd f t kv ps0 ts0 ps ts) T (.ok (.mk k wd f n (ts0++ts)) n) w)) (hsm:ps0.length+ps.length<=1000000) :
  Calls Tryz.prog 80 #[p8 c,p8 p,.slice (some (y8 w.heap.size 0)) ps.length ps.length] (w.alloc (.cells (GB ps).toArray 44))
   fun e w'=>e=.returned (p8 p)/\Hid (Ans E c g T w0 (.returned (p8 p)) w'):=by
 refine (AJ h.out.rd h.out.ex hsm).mono ?_;rintro e w' ⟨rfl,hA⟩;rw [<- h.out.eq] at hA;exact⟨rfl,hA⟩
theorem aP (h:Hid (Sx E c n g w0 (Nd E c w0 p k wd f t kv ps0 ts0 [] []) T (.ok (.mk k wd f n ts0) n) w)) :
  Calls Tryz.prog 80 #[p8 c,p8 p,OE] w
   fun e w'=>e=.returned (p8 p)/\Hid (Ans E c g T w0 (.returned (p8 p)) w'):=by
 refine (NM h.out.rd h.out.ex).mono ?_;rintro e w' ⟨rfl,hA⟩;rw [<- h.out.eq] at hA;exact⟨rfl,hA⟩
theorem NG {w2:World}{n2:Nat}{X2:R Tr} (h2:Hid (Sx E c n2 g w0 (Nd E c w0 p k wd f t kv ps0 ts0 [] []) T X2 w2)) (h:Hid (Sx E c n g w0 (Rw E c w2 v rs us [] []) T (.ok (.mk k wd f n (ts0++us)) n) w)) (hsm:ps0.length+rs.length<=1099511627776) :
  Calls Tryz.prog 80 #[p8 c,p8 p,v] w
   fun e w'=>e=.returned (p8 p)/\Hid (Ans E c g T w0 (.returned (p8 p)) w'):=by
 refine (QS h.out.rd h2.out.ex h.out.ex hsm).mono ?_;rintro e w' ⟨rfl,hA⟩;rw [<- h.out.eq] at hA;exact⟨rfl,hA⟩
theorem mU {w2:World}{n2:Nat}{X2:R Tr}{p2:Nat}{k2:UInt8}{wd2:Int}{f2 t2:Nat}{kv2:Value}{ps2:List Nat}{ts2:List Tr}{rs2:List Nat}{us2:List Tr}
  (h2:Hid (Sx E c n2 g w0 (Nd E c w1 p k wd f t kv ps0 ts0 ps ts) T X2 w2)) (h:Hid (Sx E c n g w0 (Nd E c w2 p2 k2 wd2 f2 t2 kv2 ps2 ts2 rs2 us2) T X w)) (hsm:ps2.length+rs2.length<=1000000) :
  Calls Tryz.prog 80 #[p8 c,p8 p2,.slice (some (y8 w.heap.size 0)) rs2.length rs2.length] (w.alloc (.cells (GB rs2).toArray 44))
   fun e w'=>e=.returned (p8 p2)/\Hid (Sx E c n g w0 (Nd E c w1 p k wd f t kv ps0 ts0 (ps++[p2]) (ts++[.mk k2 wd2 f2 n (ts2++us2)])) T X w'):=by
 refine (AJ h.out.rd h.out.ex hsm).mono ?_;rintro e w' ⟨rfl,q,hq,q1,q2,q3⟩;cases hq;have hh:=h.out;exact⟨rfl,q1,h2.out.fr.trans q3,hh.cw,h2.out.ex.kid q3 q2,Nd.later,hh.eq,hh.ne⟩
theorem NL {w2:World}{n2:Nat}{X2:R Tr}{p2:Nat}{k2:UInt8}{wd2:Int}{f2 t2:Nat}{kv2:Value}{ps2:List Nat}{ts2:List Tr}{rs2:List Nat}{us2:List Tr}
  (h2:Hid (Sx E c n2 g w0 (Rw E c w1 v ps ts rs us) T X2 w2)) (h:Hid (Sx E c n g w0 (Nd E c w2 p2 k2 wd2 f2 t2 kv2 ps2 ts2 rs2 us2) T X w)) (hsm:ps2.length+rs2.length<=1000000) :
  Calls Tryz.prog 80 #[p8 c,p8 p2,.slice (some (y8 w.heap.size 0)) rs2.length rs2.length] (w.alloc (.cells (GB rs2).toArray 44))
   fun e w'=>e=.returned (p8 p2)/\Hid (Sx E c n g w0 (Rw E c w1 v ps ts (rs++[p2]) (us++[.mk k2 wd2 f2 n (ts2++us2)])) T X w'):=by
 refine (AJ h.out.rd h.out.ex hsm).mono ?_;rintro e w' ⟨rfl,q,hq,q1,q2,q3⟩;cases hq;have hh:=h.out;exact⟨rfl,q1,h2.out.fr.trans q3,hh.cw,h2.out.ex.kid q3 q2,Rw.later,hh.eq,hh.ne⟩
theorem gX {P:World->Prop} (h:Hid (Sx E c n g w0 P T X w)):Hid (Sx E c n g w0 (Rw E c w OE [] [] [] []) T X w):=h.out.with (Rw.start (Fr.refl _ _) h.out.rd.lt) Rw.later
theorem iK {P:World->Prop} (h:Hid (Sx E c n g w0 P T X w)):Hid (Sx E c n g w0 (Rw E c w0 OE [] [] [] []) T X w):=h.out.with (Rw.start h.out.fr h.out.cw) Rw.later
theorem pL (h:Hid (Sx E c n g w0 (Rw E c w1 OE [] [] rs us) T X w)) (hsm:rs.length<=1000000):Hid (Sx E c n g w0 (Rw E c w1 (.slice (some (y8 w.heap.size 0)) rs.length rs.length) rs us [] []) T X (w.alloc (.cells (GB rs).toArray 44))) :=
 (h.out.below ((N' w.heap.size w).alloc (C' _) _)).with (h.out.ex.lit Da h.out.rd.zlt) Rw.later
theorem PN {w2:World}{n2:Nat}{X2:R Tr} (h2:Hid (Sx E c n2 g w0 (Nd E c w1 p k wd f t kv ps0 ts0 ps ts) T X2 w2)) {ps':List Nat}{ts':List Tr} (h:Hid (Sx E c n g w0 (Rw E c w2 v ps' ts' rs us) T X w)) :
  Hid (Sx E c n g w0 (Nd E c w1 p k wd f t kv ps0 ts0 (ps++rs) (ts++us)) T X w) :=
 h.out.with (h2.out.ex.join h.out.ex.fr h.out.ex.kids (fun b hb=>⟨hb.1,hb.2.1⟩)) Nd.later
theorem XN (h:Rd E c n g w) (k2:UInt8) (hr:Rw E c w1 v ps ts rs us w) (hsm:ps.length<=1099511627776) :
  Calls Tryz.prog 78 #[p8 c,.int .u8 (k2.toNat:Int),v] w (MQ E c n g w1.heap.size (xC k2 ts n) w):=by
 obtain⟨ka,cap,rfl,hP,hN⟩:=hr.row;exact iW h k2 hP hN (C' _) hr.fr.size hsm
theorem VJ {w2:World}{n2:Nat}{X2:R Tr} (h2:Hid (Sx E c n2 g w0 (Nd E c w1 p k wd f t kv ps0 ts0 ps ts) T X2 w2)) {k2:UInt8}{rs0:List Nat}{us0:List Tr} (h:Hid (Sx E c n g w0 (Rw E c w2 v rs us rs0 us0) T X w)) (hsm:rs.length<=1099511627776)
  (hQ:∀ q w',Hid (Sx E c n g w0 (Nd E c w1 p k wd f t kv ps0 ts0 (ps++[q]) (ts++[xC k2 us n])) T X w')->Q (.returned (p8 q)) w') :
  Calls Tryz.prog 78 #[p8 c,.int .u8 (k2.toNat:Int),v] w Q:=by
 refine (XN h.out.rd k2 h.out.ex hsm).mono ?_;rintro e w' ⟨q,rfl,q1,q2,q3⟩;have hh:=h.out;have hf:=hh.ex.fr.trans (lA c q3);exact hQ q w' ⟨q1,hh.fr.trans (lA c q3),hh.cw,h2.out.ex.kid hf q2,Nd.later,hh.eq,hh.ne⟩
theorem LE {k2:UInt8} (h:Hid (Sx E c n g w0 (Rw E c w1 v ps ts rs us) T X w)) (hsm:ps.length<=1099511627776)
  (hQ:∀ q w',Hid (Sx E c n g w0 (Rw E c w1 OE [] [] [q] [xC k2 ts n]) T X w')->Q (.returned (p8 q)) w') :
  Calls Tryz.prog 78 #[p8 c,.int .u8 (k2.toNat:Int),v] w Q:=by
 refine (XN h.out.rd k2 h.out.ex hsm).mono ?_;rintro e w' ⟨q,rfl,q1,q2,q3⟩;have hh:=h.out;have hf:=hh.ex.fr.trans (lA c q3);exact hQ q w' ⟨q1,hh.fr.trans (lA c q3),hh.cw,(Rw.start (Fr.refl _ _) hh.ex.cw).kid hf q2,Rw.later,hh.eq,hh.ne⟩
theorem RE {q:Nat}{u:Tr} (h:Hid (Sx E c n g w0 (Rw E c w1 v ps ts (rs++[q]) (us++[u])) T (.ok u n) w)) (h01:w0.heap.size<=w1.heap.size:=by exact C' _):Ans E c g T w0 (.returned (p8 q)) w:=by
 exact zcm
theorem IV {q:Nat}{u:Tr} (h:Hid (Sx E c n g w0 (Nd E c w1 p k wd f t kv ps0 ts0 (ps++[q]) (ts++[u])) T (.ok u n) w)) (h01:w0.heap.size<=w1.heap.size:=by exact C' _):Ans E c g T w0 (.returned (p8 q)) w:=by
 exact zcm
theorem gG {ps':List Nat}{ts':List Tr} (h:Hid (Sx E c n g w0 (Nd E c w1 p k wd f t kv ps0 ts0 ps ts) T X w)) (hs:∀ D,fA w D ps ts->fA w D ps' ts'):Hid (Sx E c n g w0 (Nd E c w1 p k wd f t kv ps0 ts0 ps' ts') T X w):=by
 obtain⟨a,b,d,e,f,z⟩:=h.out.ex;exact h.out.with ⟨a,b,d,e,hs _ f,z⟩ Nd.later
theorem ZY {ps':List Nat}{ts':List Tr} (h:Hid (Sx E c n g w0 (Rw E c w1 v ps ts rs us) T X w)) (hs:∀ D,fA w D rs us->fA w D ps' ts'):Hid (Sx E c n g w0 (Rw E c w1 v ps ts ps' ts') T X w):=by
 obtain⟨a,b,d,e,f,z⟩:=h.out.ex;exact h.out.with ⟨a,b,d,e,hs _ f,z⟩ Rw.later
theorem iC {ops:Array Oper}{rest:List Oper}{o:Oper}{a:Act}{Q:Exit->Act->World->Prop} (hgd:o.guard=none) (s x:Operand)
  (ho:o.op=.call { callee:=.builtin .append,args:=#[s,x],argTypes:=#[52,52] }) {q:Nat}{u:Tr}
  (h:Hid (Sx E c n g w0 (Rw E c w1 v ps ts [q] [u]) T X w)) (h01:w0.heap.size<=w1.heap.size) (hs:a.eval s=v) (hx:a.eval x=.slice (some (y8 w.heap.size 0)) 1 1) (hsm:ps.length<=1099511627776)
  (hQ:∀ v' w',Hid (Sx E c n g w0 (Rw E c w1 v' (ps++[q]) (ts++[u]) [] []) T X w')->wpList Tryz.prog ops Q rest (a.put o.dst v') w') :
  wpList Tryz.prog ops Q (o::rest) a (w.alloc (.cells #[p8 q] 44)):=by
 obtain⟨iP,hiP,hz0,hz1,hz2⟩:=info_parts Tryz.infoP;have hh:=h.out;have hz:=hh.ex.fr.size;have hB:=(N' w.heap.size w).alloc (C' _) (Obj.cells #[p8 q] 44);have ha5:(w.alloc (Obj.cells #[p8 q] 44)).heap.size=w.heap.size+1:=Cu
 refine wpList_append_own_at _ hgd s x 52 ho w1.heap.size 44 iP _ 1 8 Tryz.underlying52 hiP hz0 hz1 hz2 rfl Ct v ps.length (GB ps) hs (hh.ex.own.alloc _) (y8 w.heap.size 0) 1 1 (GB [q]) hx rfl
  (At (cs:=#[p8 q]) (t:=44) (fr:=(0,0)) (B8 w _)) (zG _) Da Cs Cs ?_
 intro v' w' hown hgrow _ hat;have hg5:=hgrow.size;have hX:Fr (YD v) (w.alloc (Obj.cells #[p8 q] 44)) w':=Fr.grown hgrow (fun k hk=>Gl);have hXm:∀ i∈YD v,w1.heap.size<=i:=by
  exact zcz
 have hcw:=hh.ex.cw;have hF1:=(hh.ex.fr.trans (lA c hB)).trans' hX (fun i hi=>.inr (hXm i hi));have hF0:=(hh.fr.trans (lA c hB)).trans' hX (fun i hi=>.inr F5);refine hQ v' w' ⟨(hh.rd.below hB).later hX (fun i hi=>F5) (hh.ex.z.imp id (fun h m=>by
  unfold YD at m;split at m
  ·rename_i b2 hb2;simp at m;exact h (m ▸ hb2)
  ·simp at m)),hF0,hh.cw,?_,Rw.later,hh.eq,hh.ne⟩
 refine hh.ex.more hF1 hown (fun b hb hne=>Eg) Cs (hat.imp id (fun e=>⟨_,e,Cs⟩)) hh.rd.zlt
theorem pG {P:World->Prop}{fn:FuncId}{args:Array Value} (h:Hid (Sx E c n g w0 P T X w)) (hC:X≠.out->Calls Tryz.prog fn args w (Ans E c g X w)) (hB:∀ k w',Ans E c g T w0 (Up k) w'->Q (Up k) w')
  (hQ:∀ q w',Hid (Ans E c g T w0 (.returned (p8 q)) w')->Q (.returned (p8 q)) w'):Calls Tryz.prog fn args w Q:=by
 refine (hC (fun e=>h.out.ne K9)).mono ?_;intro e w' hA;have hA2:=hA.behind h.out.fr;rw [<- h.out.eq] at hA2;rcases hA2.shape with ⟨q,rfl⟩|⟨k2,rfl⟩
 ·exact hQ q w' hA2
 ·exact hB k2 w' hA2
theorem cE {P:World->Prop}{fn:FuncId}{args:Array Value} (h:Hid (Sx E c n g w0 P T X w)) (hC:X≠.out->Calls Tryz.prog fn args w (Ans E c g X w0)) (hB:∀ k w',Ans E c g T w0 (Up k) w'->Q (Up k) w')
  (hQ:∀ q w',Hid (Ans E c g T w0 (.returned (p8 q)) w')->Q (.returned (p8 q)) w'):Calls Tryz.prog fn args w Q:=by
 refine (hC (fun e=>h.out.ne K9)).mono ?_;intro e w' hA2;rw [<- h.out.eq] at hA2;rcases hA2.shape with ⟨q,rfl⟩|⟨k2,rfl⟩
 ·exact hQ q w' hA2
 ·exact hB k2 w' hA2
theorem aE {P:World->Prop}{F:F} (h:Hid (Sx E c n g w0 P T (S.t F n g) w)) (hD:Hid (aB E S)) (hf:xD F≠0) (hs:NF F=false/\okF F=true) (hB:∀ k w',Ans E c g T w0 (Up k) w'->Q (Up k) w')
  (hQ:∀ q w',Hid (Ans E c g T w0 (.returned (p8 q)) w')->Q (.returned (p8 q)) w'):Calls Tryz.prog (xD F) #[p8 c] w Q :=
 pG h (hD.out.t F c n g w hf (DA hs.1 h.out.rd.at_ hs.2) h.out.rd) hB hQ
theorem jL {P:World->Prop}{k2:UInt8} (h:Hid (Sx E c n g w0 P T (.ok (vA k2 n) n) w))
  (hQ:∀ q w',Hid (Ans E c g T w0 (.returned (p8 q)) w')->Q (.returned (p8 q)) w') :
  Calls Tryz.prog 118 #[p8 c,.int .u8 (k2.toNat:Int)] w Q:=by
 refine (wJ h.out.rd k2).mono ?_;rintro e w' hA;have hA2:=(New.ans hA).behind h.out.fr;rw [<- h.out.eq] at hA2;obtain⟨q,rfl,_⟩:=hA;exact hQ q w' hA2
end
end
