import Derived.Deep.QuietTactic
import Derived.BigQuiet
import Derived.WalkMore
import Derived.WalkSpells
import Derived.Deep.RegionHeld
import Derived.Deep.RegionHeldLaw
import Derived.Deep.DeepCutAuto
import Derived.OwnWalk
import Derived.KernelRfl
import Derived.Deep.LoopGhost
import Derived.Maps.AppendAt
import Derived.WalkKit
import Derived.ProofKit
import Derived.OpenShut
import Derived.Below
import Derived.Lib.Hide
import Derived.Laws.OwnMore
import Derived.Deep.AppendLies
import Derived.Deep.RegionLaw
import Derived.Deep.RegionHeld3
import Derived.Handy
import Derived.WalkLawsBesides
import Derived.Deep.Cut
import Derived.Test.YtfmpphplbdojbaaGreatDoorQAA
import Derived.Test.YtfmpphplbdojbaaGreatDoorQAD
import Derived.Test.YtfmpphplbdojbaaGreatDoorQAC
namespace Go.Proofs.YtfmpphplbdojbaaGreatDoor
set_option linter.all false
set_option maxHeartbeats 40000000
set_option maxRecDepth 100000
section
open Go.RowKit
variable{P:Prop}
abbrev J':=@Below.refl
abbrev Ac:=@Below.heap_alloc
abbrev Ad:=@Below.heap_setCell
abbrev Aq:=@World.news_of_block
abbrev As:=@World.ownsRow_nil
theorem Aw(h:P:=by ((try dsimp only);(first|(refine⟨?_,?_⟩;all_goals (first|assumption|exact aA ((J' _ _).alloc (C' _) _) ‹_›))|(go_split_ands;refine⟨?_,?_⟩;all_goals (first|assumption|exact aA ((J' _ _).alloc (C' _) _) ‹_›))))):P:=h
theorem Az(h:P:=by clear hlt;obtain⟨HE,HL⟩:=pie (T:=bs++cQ1 [44,32] ts) Cj HN.out;go_wp2_with fail;refine (qQ2 [44,32] HK HKA HST (bl HL.out) hkl).mono ?_;rintro e wz ⟨rfl,HST⟩;go_wp2_with fail;go_end0;exact fin HE HH HB HST):P:=h
theorem A4(h:P:=by clear hlt;obtain⟨HE,HL⟩:=pie (T:=bs++cQ1 [59,32] ts) Cj HN.out;go_wp2_with fail;refine (qQ2 [59,32] HK HKA HST (bl HL.out) hkl).mono ?_;rintro e wz ⟨rfl,HST⟩;go_wp2_with fail;go_end0;exact fin HE HH HB HST):P:=h
theorem A5(h:P:=by clear hlt;obtain⟨HE,HL⟩:=pie (T:=bs++fQ1 ts) Cj HN.out;go_wp2_with fail;refine (xQ2 HK HKA HST (bl HL.out) hkl).mono ?_;rintro e wz ⟨rfl,HST⟩;go_wp2_with fail;go_end0;exact fin HE HH HB HST):P:=h
theorem A7(h:P:=by go_enter Tryz.func142,Tryz.ntmps142;go_wp2_with fail;go_ret;exact⟨rfl,rfl⟩):P:=h
theorem A8(h:P:=by have HB:Hid (VB (l.map Pt.n) 0=none):=HN.out (by rw [HST.out,if_neg Cf]);go_wp2_with fail;go_ret3;exact eD.no HB.out hbel):P:=h
theorem Ba(h:P:=by subst h0;go_wp2_with fail;go_end0;exact⟨rfl,Stp.ahead HH.out.1 HS1.out.2 (by simpa [WQ0] using Stp.refl HS1.out.1)⟩):P:=h
theorem Bf(h:P:=by clear HH hr hn;have HA:=hid (And.intro hq hA);clear hq hA;go_wp2_with fail;go_ret;exact HA.out):P:=h
theorem B7(h:P:=by go_ret;exact⟨rfl,rfl⟩):P:=h
theorem B8(h:P:=by go_ret;exact⟨I3,rfl⟩):P:=h
theorem Ca(h:P:=by go_ret2;exact⟨HB.out,I3⟩):P:=h
theorem Cb(h:P:=by go_ret2;exact⟨by rw [HA.out];rfl,H1.out.rd,H1.out.fr⟩):P:=h
theorem Cc(h:P:=by go_wp2_with fail;go_ret;exact⟨rfl,Below.drew (J' B w)⟩):P:=h
theorem Cd(h:P:=by go_wp2_with fail;go_ret;exact⟨I3,rfl⟩):P:=h
theorem Ce(h:P:=by go_at_call 126;exact PI (tE _ _)):P:=h
theorem Ci(h:P:=by kernel_rfl):P:=h
theorem Dm(h:P:=by unfold World.cell?;rw [hb];rfl):P:=h
theorem Eg(h:P:=by have hg':w.drew.heap[g]?=some (.cells cur 5 (0,0)):=hg;simp [World.shape?,hg']):P:=h
theorem Eu(h:P:=by simp [World.frozen?,m3]):P:=h
theorem Fd(h:P:=by simp [World.cell?,h2]):P:=h
theorem Fe(h:P:=by simp [World.cell?,m3]):P:=h
theorem Ff(h:P:=by simp [World.cell?,s2]):P:=h
theorem Fk(h:P:=by unfold World.cell?;rw [h1];rfl):P:=h
theorem Fl(h:P:=by simp [World.frozen?,h2]):P:=h
theorem Fy(h:P:=by unfold World.cell?;rw [HBx.out];rfl):P:=h
theorem F7(h:P:=by obtain⟨_,n,h⟩:=h;unfold World.cell?;rw [h];rfl):P:=h
theorem Gj(h:P:=by unfold World.frozen?;rw [A3];rfl):P:=h
theorem Gm(h:P:=by simp [World.frozen?,j6]):P:=h
theorem Gn(h:P:=by simp [World.frozen?,j9]):P:=h
theorem Gp(h:P:=by simp [World.frozen?,n6]):P:=h
theorem Gs(h:P:=by unfold World.cell?;rw [A3];rfl):P:=h
theorem Gv(h:P:=by go_num):P:=h
theorem Gy(h:P:=by simp [World.cell?,h3]):P:=h
theorem G3(h:P:=by simp [World.cell?,j6]):P:=h
theorem G4(h:P:=by simp [World.cell?,j9]):P:=h
theorem G5(h:P:=by simp [World.cell?,n6]):P:=h
theorem G6(h:P:=by simp [World.cell?,n9]):P:=h
theorem Id(h:P:=by simp [World.frozen?,m2]):P:=h
theorem Il(h:P:=by simp [World.cell?,hb8]):P:=h
theorem It(h:P:=by simp [World.cell?,m2]):P:=h
theorem Iw(h:P:=by simp [World.cell?,hq]):P:=h
theorem I4(h:P:=by exact cF Ci _ _):P:=h
end
section
open Go.RowKit
structure Fr (X:List Nat) (w w':World):Prop where
 os:w'.os=w.os
 tape:w'.tape=w.tape
 output:w'.output=w.output
 size:w.heap.size<=w'.heap.size
 block:∀ k,k < w.heap.size->k ∉ X->w'.heap[k]?=w.heap[k]?
theorem Fr.refl (X:List Nat) (w:World):Fr X w w:=⟨rfl,rfl,rfl,C' _,fun _ _ _=>rfl⟩
theorem Fr.trans {X:List Nat}{a b c:World} (h:Fr X a b) (k:Fr X b c):Fr X a c :=
 ⟨k.os.trans h.os,k.tape.trans h.tape,k.output.trans h.output,Ak h.size k.size,fun i hi hx=>(k.block i (Af hi h.size) hx).trans (h.block i hi hx)⟩
theorem Fr.weaken {X Y:List Nat}{w w':World} (h:Fr X w w') (hs:∀ k,k < w.heap.size->k∈X->k∈Y):Fr Y w w' :=
 ⟨h.os,h.tape,h.output,h.size,fun i hi hx=>h.block i hi (fun e=>hx (hs i hi e))⟩
theorem Fr.trans' {X Y:List Nat}{a b c:World} (h:Fr X a b) (k:Fr Y b c) (hY:∀ i∈Y,i∈X∨a.heap.size<=i):Fr X a c :=
 ⟨k.os.trans h.os,k.tape.trans h.tape,k.output.trans h.output,Ak h.size k.size,fun i hi hx=>(k.block i (Af hi h.size) (fun e=>by
  rcases hY i e with e|e
  ·exact hx e
  ·omega)).trans (h.block i hi hx)⟩
theorem Fr.below {X:List Nat}{w w':World} (h:Below w.heap.size w w'):Fr X w w':=⟨h.os,h.tape,h.output,h.size,fun k hk _=>h.block k hk⟩
theorem Fr.grown {w w':World}{row:Option Nat}{X:List Nat} (h:w.grownBy w' row) (hX:∀ k,row=some k->k∈X):Fr X w w' :=
 ⟨h.os,h.tape,h.output,h.size,fun k hk hx=>h.block k hk (fun e=>hx (hX k e.symm))⟩
theorem Fr.set {w:World}{a:Addr}{v:Value}:Fr [a.block] w (w.setCell a v) :=
 ⟨rfl,rfl,rfl,Cm,fun k _ hx=>Ad _ _ _ _ (fun e=>hx (by simp [e]))⟩
theorem Fr.cell {X:List Nat}{w w':World} (h:Fr X w w') {a:Addr}{v:Value} (hx:a.block ∉ X) (hc:w.cell? a=some v):w'.cell? a=some v:=by
 rw [World.cell?_of_block (h.block a.block (World.block_lt_of_cell? w a hc) hx)];exact hc
theorem Fr.at_ {X:List Nat}{w w':World} (h:Fr X w w') {k:Nat}{o:Obj} (hx:k ∉ X) (hc:w.heap[k]?=some o):w'.heap[k]?=some o:=by
 have hk:k < w.heap.size:=by
  rcases Nat.lt_or_ge k w.heap.size with h|h
  ·exact h
  ·simp [Array.getElem?_eq_none h] at hc
 rw [h.block k hk hx];exact hc
structure Ev extends Env where
 ta:Option Addr
 tcap:Nat
 pa:Option Addr
 pcap:Nat
 zb:Nat
 zo:Option Obj
structure Lie (E:Ev) (c:Nat) (w:World):Prop where
 toks:∀ (i:Nat) (t:Tk),E.l[i]?=some t->∃ b o,E.ta=some ⟨b,o,none⟩/\b < c/\w.cell? ⟨b,o+i*3,none⟩=some (.int .u8 (t.kind.toNat:Int))/\w.cell? ⟨b,o+i*3+1,none⟩=some (.int .i64 (t.fr:Int)) /\
  w.cell? ⟨b,o+i*3+2,none⟩=some (.int .i64 (t.to:Int))
 fits:∀ t∈E.l,t.fr<=t.to/\t.to<=E.s.length
 small:E.l.length<=1099511627776
structure Prs (E:Ev) (c:Nat) (w:World):Prop where
 pairs:∀ (i:Nat) (x:Int),E.pair[i]?=some x->∃ b o,E.pa=some ⟨b,o,none⟩/\b < c/\w.cell? ⟨b,o+i,none⟩=some (.int .i64 x)
 same:E.pair.length=E.l.length
 within:∀ x∈E.pair,-1<=x/\x<=1099511627776
theorem Lie.later {E:Ev}{c:Nat}{X:List Nat}{w w':World} (h:Lie E c w) (hf:Fr X w w') (hX:∀ k∈X,c<=k):Lie E c w':=by
 refine⟨fun i t ht=>?_,h.fits,h.small⟩;obtain⟨b,o,e,hb,h0,h1,h2⟩:=h.toks i t ht;have hn:b ∉ X:=fun m=>Jb
 exact⟨b,o,e,hb,hf.cell hn h0,hf.cell hn h1,hf.cell hn h2⟩
theorem Prs.later {E:Ev}{c:Nat}{X:List Nat}{w w':World} (h:Prs E c w) (hf:Fr X w w') (hX:∀ k∈X,c<=k):Prs E c w':=by
 refine⟨fun i x hx=>?_,h.same,h.within⟩;obtain⟨b,o,e,hb,h0⟩:=h.pairs i x hx;exact⟨b,o,e,hb,hf.cell (fun m=>Jb) h0⟩
structure Rd (E:Ev) (c:Nat) (n:Nat) (g:Bool) (w:World):Prop where
 blk:w.heap[c]?=some (.cells #[.string ⟨E.s.toArray⟩,.slice E.ta E.l.length E.tcap,.slice E.pa E.pair.length E.pcap,.int .i64 (n:Int),.bool g] 57 (0,0))
 lie:Lie E c w
 prs:Prs E c w
 at_:n<=E.l.length
 z:∀ o,E.zo=some o->E.zb≠c/\w.heap[E.zb]?=some o
theorem Rd.cells {E:Ev}{c n:Nat}{g:Bool}{w:World} (h:Rd E c n g w) :
  w.cell? ⟨c,0,none⟩=some (.string ⟨E.s.toArray⟩)/\w.cell? ⟨c,1,none⟩=some (.slice E.ta E.l.length E.tcap)/\w.cell? ⟨c,2,none⟩=some (.slice E.pa E.pair.length E.pcap) /\
  w.cell? ⟨c,3,none⟩=some (.int .i64 (n:Int))/\w.cell? ⟨c,4,none⟩=some (.bool g):=by
 have hb:=h.blk;refine⟨?_,?_,?_,?_,?_⟩ <;> simp [World.cell?,hb]
theorem Rd.free {E:Ev}{c n:Nat}{g:Bool}{w:World} (h:Rd E c n g w) (i:Nat):w.frozen? ⟨c,i,none⟩=false:=by
 have hb:=h.blk;simp [World.frozen?,hb]
theorem Rd.lt {E:Ev}{c n:Nat}{g:Bool}{w:World} (h:Rd E c n g w):c < w.heap.size:=by
 have hb:=h.blk;rcases Nat.lt_or_ge c w.heap.size with h|h
 ·exact h
 ·exact Bt
theorem Rd.zlt {E:Ev}{c n:Nat}{g:Bool}{w:World} (h:Rd E c n g w):E.zo=none∨E.zb < w.heap.size:=by
 cases hz:E.zo with
 | none=>exact .inl rfl
 | some o =>
  right
  obtain⟨_,hb⟩:=h.z o hz;rcases Nat.lt_or_ge E.zb w.heap.size with h|h
  ·exact h
  ·exact Bt
theorem Rd.later {E:Ev}{c n:Nat}{g:Bool}{w w':World}{X:List Nat} (h:Rd E c n g w) (hf:Fr X w w') (hX:∀ k∈X,c < k) (hz:E.zo=none∨E.zb ∉ X):Rd E c n g w' :=
 ⟨hf.at_ (fun m=>by have:=hX c m;omega) h.blk,h.lie.later hf (fun k m=>Nat.le_of_lt (hX k m)),h.prs.later hf (fun k m=>Nat.le_of_lt (hX k m)),h.at_,fun o ho=>⟨(h.z o ho).1,hf.at_ (hz.resolve_left (by rw [ho];simp)) (h.z o ho).2⟩⟩
theorem Rd.moved {E:Ev}{c n:Nat}{g:Bool}{w:World} (h:Rd E c n g w) (m:Nat) (hm:m<=E.l.length):Rd E c m g (w.setCell ⟨c,3,none⟩ (.int .i64 (m:Int))) :=
 ⟨by rw [heap_setCell_same w c 3 _ _ _ h.blk];rfl,h.lie.later (Fr.set (a:=⟨c,3,none⟩)) (fun k m=>Hm),h.prs.later (Fr.set (a:=⟨c,3,none⟩)) (fun k m=>Hm),hm,fun o ho=>⟨(h.z o ho).1,(Fr.set (a:=⟨c,3,none⟩)).at_ (by simpa using (h.z o ho).1) (h.z o ho).2⟩⟩
theorem Rd.headed {E:Ev}{c n:Nat}{g:Bool}{w:World} (h:Rd E c n g w) (g':Bool):Rd E c n g' (w.setCell ⟨c,4,none⟩ (.bool g')) :=
 ⟨by rw [heap_setCell_same w c 4 _ _ _ h.blk];rfl,h.lie.later (Fr.set (a:=⟨c,4,none⟩)) (fun k m=>Hm),h.prs.later (Fr.set (a:=⟨c,4,none⟩)) (fun k m=>Hm),h.at_,fun o ho=>⟨(h.z o ho).1,(Fr.set (a:=⟨c,4,none⟩)).at_ (by simpa using (h.z o ho).1) (h.z o ho).2⟩⟩
def nJ (w:World) (D:Nat->Prop) (ka:Option Addr) (ps:List Nat):Prop :=
 ps=[]∨∃ b o,ka=some ⟨b,o,none⟩/\D b/\∀ (j p:Nat),ps[j]?=some p->w.cell? ⟨b,o+j,none⟩=some (.pointer (some ⟨p,0,none⟩))
mutual
def nA (w:World) (D:Nat->Prop):Nat->Tr->Prop
 | p,.mk k wd f t ks=>D p/\∃ (ka:Option Addr) (cap:Nat) (ps:List Nat),w.heap[p]?=some (.cells #[.int .u8 (k.toNat:Int),.int .i64 wd,.int .i64 (f:Int),.int .i64 (t:Int),.slice ka ks.length cap] 61 (0,0)) /\
  nJ w D ka ps/\fA w D ps ks
def fA (w:World) (D:Nat->Prop):List Nat->List Tr->Prop
 | [],[]=>True
 | p::ps,t::ts=>nA w D p t/\fA w D ps ts
 | _,_=>False
end
theorem nJ.kept {w w':World}{D D':Nat->Prop}{ka:Option Addr}{ps:List Nat} (h:nJ w D ka ps) (hk:∀ b,D b->w'.heap[b]?=w.heap[b]?) (hd:∀ b,D b->D' b):nJ w' D' ka ps:=by
 rcases h with h|⟨b,o,e,hb,hc⟩
 ·exact .inl h
 ·refine .inr ⟨b,o,e,hd b hb,fun j p hj=>?_⟩;rw [World.cell?_of_block (a:=⟨b,o+j,none⟩) (hk b hb)];exact hc j p hj
mutual
theorem nA.kept {w w':World}{D D':Nat->Prop} (hk:∀ b,D b->w'.heap[b]?=w.heap[b]?) (hd:∀ b,D b->D' b):∀ (p:Nat) (t:Tr),nA w D p t->nA w' D' p t
 | p,.mk k wd f t ks,⟨a,ka,cap,ps,hb,hp,hn⟩=>⟨hd p a,ka,cap,ps,by rw [hk p a];exact hb,hp.kept hk hd,fA.kept hk hd ps ks hn⟩
theorem fA.kept {w w':World}{D D':Nat->Prop} (hk:∀ b,D b->w'.heap[b]?=w.heap[b]?) (hd:∀ b,D b->D' b):∀ (ps:List Nat) (ts:List Tr),fA w D ps ts->fA w' D' ps ts
 | [],[],_=>trivial
 | p::ps,t::ts,⟨a,b⟩=>⟨nA.kept hk hd p t a,fA.kept hk hd ps ts b⟩
 | [],_::_,h=>h.elim
 | _::_,[],h=>h.elim
end
theorem fA.len {w:World}{D:Nat->Prop}:∀ {ps:List Nat}{ts:List Tr},fA w D ps ts->ps.length=ts.length
 | [],[],_=>rfl
 | _::ps,_::ts,⟨_,b⟩=>by simp [fA.len b]
 | [],_::_,h=>h.elim
 | _::_,[],h=>h.elim
theorem fA.append {w:World}{D:Nat->Prop}:∀ {ps qs:List Nat}{ts us:List Tr},fA w D ps ts->fA w D qs us->fA w D (ps++qs) (ts++us)
 | [],_,[],_,_,k=>k
 | _::_,_,_::_,_,⟨a,b⟩,k=>⟨a,fA.append b k⟩
 | [],_,_::_,_,h,_=>h.elim
 | _::_,_,[],_,h,_=>h.elim
theorem fA.get {w:World}{D:Nat->Prop}:∀ {ps:List Nat}{ts:List Tr} (j:Nat) (t:Tr),fA w D ps ts->ts[j]?=some t->∃ p,ps[j]?=some p/\nA w D p t
 | [],[],j,t,_,h=>Ha
 | p::ps,u::ts,0,t,⟨a,_⟩,h=>by simp at h;subst h;exact⟨p,rfl,a⟩
 | p::ps,u::ts,j+1,t,⟨_,b⟩,h=>by
  obtain⟨q,hq,hn⟩:=fA.get j t b Dc;exact⟨q,by simpa using hq,hn⟩
 | [],_::_,_,_,h,_=>h.elim
 | _::_,[],_,_,h,_=>h.elim
def within (lo hi:Nat):Nat->Prop:=fun b=>lo<=b/\b < hi
abbrev rM (w:World) (lo hi:Nat) (ka:Option Addr) (ps:List Nat):Prop:=nJ w (within lo hi) ka ps
abbrev EA (w:World) (lo hi p:Nat) (t:Tr):Prop:=nA w (within lo hi) p t
abbrev iG (w:World) (lo hi:Nat) (ps:List Nat) (ts:List Tr):Prop:=fA w (within lo hi) ps ts
theorem rM.kept {w w':World}{lo hi lo' hi':Nat}{ka:Option Addr}{ps:List Nat} (h:rM w lo hi ka ps) (hk:∀ b,lo<=b->b < hi->w'.heap[b]?=w.heap[b]?) (h1:lo'<=lo) (h2:hi<=hi'):rM w' lo' hi' ka ps :=
 nJ.kept h (fun b hb=>hk b hb.1 hb.2) (fun b hb=>⟨Ak h1 hb.1,Af hb.2 h2⟩)
theorem EA.kept {w w':World}{lo hi lo' hi':Nat} (hk:∀ b,lo<=b->b < hi->w'.heap[b]?=w.heap[b]?) (h1:lo'<=lo) (h2:hi<=hi') (p:Nat) (t:Tr) (h:EA w lo hi p t):EA w' lo' hi' p t :=
 nA.kept (fun b hb=>hk b hb.1 hb.2) (fun b hb=>⟨Ak h1 hb.1,Af hb.2 h2⟩) p t h
theorem iG.kept {w w':World}{lo hi lo' hi':Nat} (hk:∀ b,lo<=b->b < hi->w'.heap[b]?=w.heap[b]?) (h1:lo'<=lo) (h2:hi<=hi') (ps:List Nat) (ts:List Tr) (h:iG w lo hi ps ts):iG w' lo' hi' ps ts :=
 fA.kept (fun b hb=>hk b hb.1 hb.2) (fun b hb=>⟨Ak h1 hb.1,Af hb.2 h2⟩) ps ts h
theorem EA.later {X:List Nat}{w w':World}{lo hi hi' p:Nat}{t:Tr} (h:EA w lo hi p t) (hf:Fr X w w') (hX:∀ k∈X,k < lo∨hi<=k) (h1:hi<=w.heap.size) (h2:hi<=hi'):EA w' lo hi' p t :=
 EA.kept (fun b hb1 hb2=>hf.block b Cf (fun m=>Jb)) (C' _) h2 p t h
def YC (w:World) (p:Nat) (k:UInt8) (wd:Int) (f t:Nat) (kv:Value):Prop :=
 w.heap[p]?=some (.cells #[.int .u8 (k.toNat:Int),.int .i64 wd,.int .i64 (f:Int),.int .i64 (t:Int),kv] 61 (0,0))
def Up (k:Nat):Ending:=.panicked [{ v:=.iface 111 (.int .i64 (k:Int)),recovered:=false }]
def Did (E:Ev) (c:Nat) (g:Bool) (r:R Unit) (w:World) (e:Ending) (w':World):Prop :=
 match r with
 | .ok _ n=>e=.returned (.tuple #[])/\Rd E c n g w'/\Fr [c] w w'
 | .bad k=>e=Up k/\(∃ g',Rd E c k g' w')/\Fr [c] w w'
 | .out=>False
def Ans (E:Ev) (c:Nat) (g:Bool) (r:R Tr) (w:World) (e:Ending) (w':World):Prop :=
 match r with
 | .ok t n=>∃ p,e=.returned (.pointer (some ⟨p,0,none⟩))/\Rd E c n g w'/\EA w' w.heap.size w'.heap.size p t/\Fr [c] w w'
 | .bad k=>e=Up k/\(∃ g',Rd E c k g' w')/\Fr [c] w w'
 | .out=>False
end
section
def spW (k:UInt8) (w:List UInt8):Bool :=
 if k=3∨k=4 then [[105,109,112,111,114,116],[99,111,110,115,116],[118,97,114],[116,121,112,101]].contains w
 else if k=36 then [[43],[45],[33],[94],[38],[60,45]].contains w
 else if k=37 then decide (1<=DD w)
 else if k=45 then [[99,104,97,110],[60,45]].contains w
 else if k=52 then [[43,43],[45,45]].contains w
 else if k=53 then assigns w
 else if k=57 then [[98,114,101,97,107],[99,111,110,116,105,110,117,101],[103,111,116,111],[102,97,108,108,116,104,114,111,117,103,104]].contains w
 else if k=5 then w==[]||w==[46]
 else if k=7 then w==[]||w==[61]
 else if k=15∨k=34 then w==[]||w==[46,46,46]
 else if k=66 then w==[]||w==[61]||w==[58,61]
 else w==[]
def gB (E:Env) (k:UInt8) (wd:Int):Bool :=
 if k=26 then E.named wd else if k=27 then E.literal wd
 else if wd=-1 then spW k [] else decide (0<=wd)&&(E.word wd != [])&&spW k (E.word wd)
variable {E:Env}{S:AB}
mutual
def Sp (E:Env):Tr->Prop
 | .mk k wd _ _ ks=>gB E k wd=true/\Sps E ks
def Sps (E:Env):List Tr->Prop
 | []=>True
 | t::ts=>Sp E t/\Sps E ts
end
theorem Sps.append:∀ {a b:List Tr},Sps E a->Sps E b->Sps E (a++b)
 | [],_,_,h=>h
 | _::_,_,⟨h1,h2⟩,h=>⟨h1,Sps.append h2 h⟩
theorem Sps.snoc {a:List Tr}{t:Tr} (h:Sps E a) (ht:Sp E t):Sps E (a++[t]):=Sps.append h ⟨ht,trivial⟩
theorem Sps.mem:∀ {a:List Tr}{t:Tr},Sps E a->t∈a->Sp E t
 | _::_,_,⟨h1,h2⟩,h=>by
  rcases List.mem_cons.1 h with rfl|h
  ·exact h1
  ·exact Sps.mem h2 h
theorem Sp.kids {t:Tr} (h:Sp E t):Sps E t.kids:=Ic
theorem Sp.list {k:UInt8}{ks:List Tr}{n:Nat} (h:Sps E ks) (hk:gB E k (-1)=true):Sp E (xC k ks n):=by
 cases ks with
 | nil=>exact⟨hk,trivial⟩
 | cons a b=>exact⟨hk,h⟩
theorem DB {k:UInt8}{n:Nat} (h:gB E k (-1)=true):Sp E (vA k n):=⟨h,trivial⟩
theorem MK {k:UInt8}{n:Nat}{w:List UInt8} (hk:(k=26∨k=27)=False) (h:E.word (n:Int)=w) (hw:w≠[]) (hs:spW k w=true):gB E k (n:Int)=true:=by
 subst h;have h1:¬ k=26:=fun e=>by rw [<- hk];exact .inl e
 have h2:¬ k=27:=fun e=>by rw [<- hk];exact .inr e
 unfold gB;rw [if_neg h1,if_neg h2,if_neg Cf];simp [hs,hw]
theorem ZM {k:UInt8}{n:Nat}{x:UInt8}{w:List UInt8} (hk:(k=26∨k=27)=False) (h:E.is n (x::w)=true) (hs:spW k (x::w)=true):gB E k (n:Int)=true :=
 MK hk (eq_of_beq h) (List.cons_ne_nil _ _) hs
theorem BP {n least:Nat} (h0:1<=least) (h:¬ DD (E.word (n:Int)) < least):gB E 37 (n:Int)=true:=by
 have h1:1<=DD (E.word (n:Int)):=Cf
 refine MK Ch rfl (fun e=>?_) ?_
 ·rw [e] at h1;revert h1;decide
 ·show decide (1<=DD (E.word (n:Int)))=true
  exact decide_eq_true h1
def OkS (E:Env) (r:R Tr):Prop:=∀ a m,r=.ok a m->Sp E a
def xM (E:Env) (a:List Tr × Int):Prop:=Sps E a.1/\(a.2=-1∨∃ w:Nat,a.2=(w:Int)/\E.word (w:Int)=[46,46,46])
def OkR (E:Env) (r:R (List Tr × Int)):Prop:=∀ a m,r=.ok a m->xM E a
theorem OkS.bad {k:Nat}:OkS E (.bad k):=fun _ _ h=>C4
theorem OkS.ok {a:Tr}{m:Nat} (h:Sp E a):OkS E (.ok a m):=fun _ _ e=>Hl
theorem OkR.ok {a:List Tr × Int}{m:Nat} (h:xM E a):OkR E (.ok a m):=fun _ _ e=>Hl
theorem OkS.ite {c:Prop} [Decidable c] {a b:R Tr} (h1:c->OkS E a) (h2:¬ c->OkS E b):OkS E (if c then a else b):=by
 by_cases h:c
 ·exact Bx
 ·exact Bz
theorem OkR.ite {c:Prop} [Decidable c] {a b:R (List Tr × Int)} (h1:OkR E a) (h2:OkR E b):OkR E (if c then a else b):=Iz
theorem OkS.sub {r:R Tr}{f:Tr->Nat->R Tr} (h:OkS E r) (hf:∀ a m,Sp E a->OkS E (f a m)):OkS E (r.andThen f):=by
 cases r with
 | ok a m=>exact hf a m (h a m rfl)
 | bad k=>exact OkS.bad
 | out=>exact fun _ _ h=>C4
theorem OkS.subP {r:R (List Tr × Int)}{f:List Tr × Int->Nat->R Tr} (h:OkR E r) (hf:∀ a m,xM E a->OkS E (f a m)):OkS E (r.andThen f):=by
 cases r with
 | ok a m=>exact hf a m (h a m rfl)
 | bad k=>exact OkS.bad
 | out=>exact fun _ _ h=>C4
theorem OkS.want {w:List UInt8}{n:Nat}{f:Unit->Nat->R Tr} (hf:∀ m,OkS E (f () m)):OkS E ((want E w n).andThen f):=by
 unfold Go.Proofs.YtfmpphplbdojbaaGreatDoor.want;split
 ·exact hf _
 ·exact OkS.bad
theorem OkR.want {w:List UInt8}{n:Nat}{f:Unit->Nat->R (List Tr × Int)} (hf:∀ m,OkR E (f () m)):OkR E ((want E w n).andThen f):=by
 unfold Go.Proofs.YtfmpphplbdojbaaGreatDoor.want;split
 ·exact hf _
 ·exact fun _ _ h=>C4
theorem dL {n:Int} (h:E.quoted n=true):E.literal n=true:=by
 unfold Env.quoted at h;unfold Env.literal;rw [eq_of_beq h];rfl
theorem WK {n:Nat}:OkS E (LC E n):=by
 unfold LC leaf;exact OkS.ite (fun h=>OkS.ok ⟨h,trivial⟩) (fun _=>OkS.bad)
theorem PL {n:Nat}:OkS E (TH E n):=by
 unfold TH leaf;exact OkS.ite (fun h=>OkS.ok ⟨dL h,trivial⟩) (fun _=>OkS.bad)
theorem EU {n:Nat}:OkS E (zH E n):=by unfold zH;exact OkS.ite (fun _=>PL) (fun _=>OkS.ok ⟨Ct,trivial⟩)
def spF (E:Env) (n:Nat):F->Prop
 | .fileImports a b=>Sp E a/\Sps E b|.fileDecls a b c=>Sp E a/\Sp E b/\Sps E c
 | .group|.declared=>gB E 4 (n:Int)=true|.branch=>gB E 57 (n:Int)=true
 | .namesMore a=>Sps E a|.unionMore a=>Sps E a|.members k _=>gB E k (-1)=true
 | .exprsMore a=>Sps E a|.typesMore a=>Sps E a|.binMore l _ x=>1<=l/\Sp E x|.binary l=>1<=l|.primMore _ x=>Sp E x|.dot _ x=>Sp E x|.call _ x=>Sp E x|.index _ x=>Sp E x
 | .indexMore _ x a=>Sp E x/\Sps E a|.slice _ x lo=>Sp E x/\Sp E lo|.stmtsMore a=>Sps E a|.rest _ l=>Sp E l|.clauses k _=>gB E k (-1)=true|.clausesMore k _ a=>gB E k (-1)=true/\Sps E a
 | .overall _ wd l=>Sp E l/\gB E 66 wd=true
 | _=>True
structure zJ (E:Env) (S:AB):Prop where
 t:∀ f n g,spF E n f->OkS E (S.t f n g)
 l:∀ mark shut o acc word n g,xM E (acc,word)->OkR E (S.l mark shut o acc word n g)
theorem BN (H:zJ E S) (a b c:List UInt8) (o:One) (n:Nat) (g:Bool):OkR E (rows E S a b c o n g):=by
 unfold rows;exact OkR.want fun m=>H.l _ _ _ _ _ _ _ ⟨trivial,.inl rfl⟩
theorem zW (H:zJ E S) {fr:Nat}{x:Tr} (h1:Sp E x) (n:Nat) (g:Bool):OkS E (bG E S fr x n g):=by
 unfold bG;refine OkS.subP (BN H _ _ _ _ _ _) (fun a m ha=>OkS.want fun m2=>OkS.ok ?_);obtain⟨a,wd⟩:=a;obtain⟨hs,hw⟩:=ha;refine⟨?_,h1,Sp.list hs Ct,trivial⟩;rcases hw with e|⟨w,e,hw⟩
 ·simp only at e;subst e;rfl
 ·simp only at e;subst e;exact MK Ch hw Ch Ch
theorem IQ {n:Nat} (h:assigns (E.word (n:Int))=true):gB E 53 (n:Int)=true:=MK Ch rfl (fun e=>by rw [e] at h;revert h;decide) h
theorem XW (H:zJ E S) {fr:Nat}{left:Tr} (h1:Sp E left) (n:Nat) (g:Bool):OkS E (WF E S fr left n g):=by
 unfold WF;refine OkS.ite (fun hc=>OkS.sub (H.t .exprs _ _ trivial) (fun a m ha=>OkS.ok ⟨IQ hc,h1,ha,trivial⟩)) (fun _=>?_);split
 ·rename_i x hx;have hs:Sp E x:=Sps.mem h1.kids Dj;refine OkS.ite (fun hc=>OkS.ok ⟨?_,hs,trivial⟩) (fun _=>OkS.ite (fun _=>OkS.sub (H.t .expr _ _ trivial) (fun a m ha=>OkS.ok ⟨Ct,hs,ha,trivial⟩)) (fun _=>OkS.ok ⟨Ct,hs,trivial⟩));simp only [Bool.or_eq_true] at hc;rcases hc with hc|hc <;> exact ZM Ch hc Ch
 ·exact OkS.bad
theorem GN {s:Tr} (h:Sp E s) (n:Nat):OkS E (only s n):=by
 unfold only;refine OkS.ite (fun _=>?_) (fun _=>OkS.bad);split
 ·rename_i x r hx;exact OkS.ok (Sps.mem h.kids Dj)
 ·exact OkS.bad
theorem UI (H:zJ E S) {fr:Nat}{a b:Tr} (h1:Sp E a) (h2:Sp E b) (n:Nat) (g:Bool):OkS E (SD E S fr a b n g):=by
 unfold SD;simp only [oA,mA];refine OkS.sub (H.t .block _ _ trivial) (fun c m hc=>?_);refine OkS.ite (fun _=>OkS.ite (fun _=>OkS.sub (H.t .ifs _ _ trivial) (fun d m hd=>OkS.ok ⟨Ct,h1,h2,hc,hd,trivial⟩)) (fun _=>OkS.sub (H.t .block _ _ trivial) (fun d m hd=>OkS.ok ⟨Ct,h1,h2,hc,hd,trivial⟩))) (fun _=>OkS.ok ⟨Ct,h1,h2,hc,DB Ct,trivial⟩)
theorem cY (H:zJ E S) (n:Nat) (g:Bool):OkS E (XI E S n g):=by
 unfold XI;refine OkS.ite (fun _=>OkS.sub (H.t .expr _ _ trivial) (fun a m ha=>UI H (DB Ct) ha _ _)) (fun _=>OkS.sub (H.t .simple _ _ trivial) (fun s m hs=>OkS.ite (fun _=>OkS.sub (H.t .expr _ _ trivial) (fun a m ha=>UI H hs ha _ _)) (fun _=>OkS.sub (GN hs _) (fun a m ha=>UI H (DB Ct) ha _ _))))
theorem ZU {s a b:Tr} (h:Sp E s) (he:asked E s=some (a,b)):Sp E a/\Sp E b:=by
 unfold asked at he;split at he
 ·rename_i x hk hx;have hs:Sp E x:=Sps.mem h.kids Dj;split at he
  ·rename_i y h33 hy;cases he;exact⟨DB (k:=0) (n:=s.fr) Ct,Sps.mem hs.kids Fq⟩
  ·cases he
 ·rename_i l r hk hx;have hl:Sp E l:=Sps.mem h.kids Dj;have hr:Sp E r:=Sps.mem h.kids Dj;split at he
  ·split at he
   ·rename_i c d hc hd;have h1:Sp E c:=Sps.mem hl.kids I7;have h2:Sp E d:=Sps.mem hr.kids I8;split at he
    ·split at he
     ·rename_i y hy;cases he;exact⟨h1,Sps.mem h2.kids Fq⟩
     ·cases he
    ·cases he
   ·cases he
  ·cases he
 ·cases he
theorem pF (H:zJ E S) {fr:Nat}{a t:Tr}{s:Option Tr} (h1:Sp E a) (h2:Sp E t) (h3:∀ x,s=some x->Sp E x) (n:Nat) (g:Bool):OkS E (qB E S fr a s t n g):=by
 have h62:gB E 62 (-1)=true:=Ct
 unfold qB;cases s with
 | none=>exact OkS.sub (H.t (.clauses 62 1) _ _ h62) (fun c m hc=>OkS.ok ⟨Ct,h1,h2,hc,trivial⟩)
 | some s =>
  have hs:=h3 s rfl
  show OkS E (match asked E s with|some (name,x)=>_|none=>_)
  cases he:asked E s with
  | none=>exact OkS.sub (GN hs _) (fun t2 m ht=>OkS.sub (H.t (.clauses 62 1) _ _ h62) (fun c m hc=>OkS.ok ⟨Ct,h1,ht,hc,trivial⟩))
  | some p =>
   obtain⟨x,y⟩:=p;obtain⟨hx,hy⟩:=ZU hs he;exact OkS.sub (H.t (.clauses 62 2) _ _ h62) (fun c m hc=>OkS.ok ⟨Ct,h1,hx,hy,hc,trivial⟩)
theorem oH (H:zJ E S) {fr:Nat}{a:Tr} (h1:Sp E a) (n:Nat) (g:Bool):OkS E (nB E S fr a n g):=by
 unfold nB;exact OkS.ite (fun _=>pF H h1 (DB Ct) (fun _ h=>C4) _ _) (fun _=>OkS.sub (H.t .simple _ _ trivial) (fun s m hs=>pF H h1 (DB Ct) (fun _ h=>Ga) _ _))
theorem SO (H:zJ E S) (n:Nat) (g:Bool):OkS E (qC E S n g):=by
 unfold qC;refine OkS.ite (fun _=>pF H (DB Ct) (DB Ct) (fun _ h=>C4) _ _) (fun _=>OkS.ite (fun _=>oH H (DB Ct) _ _) (fun _=>OkS.sub (H.t .simple _ _ trivial) (fun s m hs=>OkS.ite (fun _=>oH H hs _ _) (fun _=>pF H (DB Ct) (DB Ct) (fun _ h=>Ga) _ _))))
theorem tK (H:zJ E S) {fr:Nat}{a:Tr} (h1:Sp E a) (n:Nat) (g:Bool):OkS E (kD E S fr a n g):=by
 unfold kD;simp only [oA,mA];refine OkS.want (fun m=>?_);refine OkS.ite (fun _=>OkS.want (fun m=>?_)) (fun _=>OkS.sub (H.t .expr _ _ trivial) (fun c m hc=>OkS.want (fun m=>?_)))
 ·exact OkS.ite (fun _=>OkS.sub (H.t .block _ _ trivial) (fun b m hb=>OkS.ok ⟨Ct,h1,DB Ct,DB Ct,hb,trivial⟩)) (fun _=>OkS.sub (H.t .simple _ _ trivial) (fun d m hd=>OkS.sub (H.t .block _ _ trivial) (fun b m hb=>OkS.ok ⟨Ct,h1,DB Ct,hd,hb,trivial⟩)))
 ·exact OkS.ite (fun _=>OkS.sub (H.t .block _ _ trivial) (fun b m hb=>OkS.ok ⟨Ct,h1,hc,DB Ct,hb,trivial⟩)) (fun _=>OkS.sub (H.t .simple _ _ trivial) (fun d m hd=>OkS.sub (H.t .block _ _ trivial) (fun b m hb=>OkS.ok ⟨Ct,h1,hc,hd,hb,trivial⟩)))
theorem DW (H:zJ E S) (n:Nat) (g:Bool):OkS E (fG E S n g):=by
 have h66:gB E 66 (-1)=true:=Ct
 unfold fG;refine OkS.ite (fun _=>OkS.sub (H.t .block _ _ trivial) (fun b m hb=>OkS.ok ⟨Ct,DB Ct,DB Ct,DB Ct,hb,trivial⟩)) (fun _=>?_);refine OkS.ite (fun _=>H.t (.overall _ _ _) _ _ ⟨DB Ct,h66⟩) (fun _=>OkS.ite (fun _=>tK H (DB Ct) _ _) (fun _=>?_));refine OkS.sub (H.t .exprs _ _ trivial) (fun l m hl=>?_);refine OkS.ite (fun hc=>H.t (.overall _ _ l) _ _ ⟨hl,?_⟩) (fun _=>OkS.sub (H.t (.rest _ l) _ _ hl) (fun s m hs=>?_))
 ·simp only [Bool.and_eq_true,Bool.or_eq_true] at hc;rcases hc.1 with hc|hc <;> exact ZM Ch hc Ch
 exact OkS.ite (fun _=>tK H hs _ _) (fun _=>OkS.sub (GN hs _) (fun x m hx=>OkS.sub (H.t .block _ _ trivial) (fun b m hb=>OkS.ok ⟨Ct,DB Ct,hx,DB Ct,hb,trivial⟩)))
theorem rU (H:zJ E S) (mark shut:List UInt8) (o:One) (acc:List Tr) (word:Int) (n:Nat) (g:Bool) (h:xM E (acc,word)):OkR E (LF E S mark shut o acc word n g):=by
 unfold LF;refine OkR.ite (OkR.ok h) ?_;obtain⟨h1,h2⟩:=h;simp only at h1 h2;have key:∀ r:R (Tr × Int),(∀ p m,r=.ok p m->xM E ([p.1],p.2))->OkR E (r.andThen fun p n1=>if E.is n1 shut then S.l mark shut o (acc++[p.1]) p.2 n1 g else (want E mark n1).andThen fun _ n2=>S.l mark shut o (acc++[p.1]) p.2 n2 g):=by
  intro r hr;cases r with
  | ok p m =>
   obtain⟨q1,q2⟩:=hr p m rfl;have hp:xM E (acc++[p.1],p.2):=⟨Sps.snoc h1 q1.1,q2⟩;exact OkR.ite (H.l _ _ _ _ _ _ _ hp) (OkR.want fun m=>H.l _ _ _ _ _ _ _ hp)
  | bad k=>exact fun _ _ h=>C4
  | out=>exact fun _ _ h=>C4
 refine key _ ?_;have sub:∀ (r:R Tr) (f:Tr->Nat->R (Tr × Int)),OkS E r->(∀ a m,Sp E a->∀ p m',f a m=.ok p m'->xM E ([p.1],p.2))->∀ p m,r.andThen f=.ok p m->xM E ([p.1],p.2):=by
  intro r f hr hf p m e;cases r with
  | ok a m1=>exact hf a m1 (hr a m1 rfl) p m e
  | bad k=>cases e
  | out=>cases e
 have plain:∀ o':One,spF E n (.one o')->∀ p m,((S.t (.one o') n g).andThen fun x n1=>(.ok (x,word) n1:R (Tr × Int)))=.ok p m->xM E ([p.1],p.2) :=
  fun o' hf=>sub _ _ (H.t _ _ _ hf) (fun a m ha p m' e=>by cases e;exact⟨⟨ha,trivial⟩,h2⟩)
 cases o with
 | call =>
  intro p m e;have e':(if 0<=word then (R.bad n:R (Tr × Int)) else (S.t .expr n g).andThen fun x n1=>if E.is n1 [46,46,46] then .ok (x,(n1:Int)) (n1+1) else .ok (x,word) n1)=.ok p m:=e;split at e'
  ·cases e'
  ·refine sub _ _ (H.t .expr n g trivial) (fun a m ha p m' e=>?_) p m e';split at e
   ·rename_i hd;cases e;exact⟨⟨ha,trivial⟩,.inr ⟨m,rfl,eq_of_beq hd⟩⟩
   ·cases e;exact⟨⟨ha,trivial⟩,h2⟩
 | expr=>exact plain .expr trivial
 | param=>exact plain .param trivial
 | tparam=>exact plain .tparam trivial
 | typ=>exact plain .typ trivial
 | field=>exact plain .field trivial
 | elem=>exact plain .elem trivial
 | element=>exact plain .element trivial
 | importSpec=>exact plain .importSpec trivial
 | constSpec=>exact plain .constSpec trivial
 | typeSpec=>exact plain .typeSpec trivial
 | valueSpec=>exact plain .valueSpec trivial
theorem zX (H:zJ E S):zJ E (step E S):=by
 refine⟨fun f n g hf=>?_,fun mark shut o acc word n g h=>rU H mark shut o acc word n g h⟩
 show OkS E (DF E S f n g)
 cases f
 case call=>exact zW H hf n g
 case rest=>exact XW H hf n g
 case ifs=>exact cY H n g
 case switches=>exact SO H n g
 case fors=>exact DW H n g
 case exprs=>exact OkS.sub (H.t .expr n g trivial) (fun x m hx=>H.t (.exprsMore [x]) _ _ ⟨hx,trivial⟩)
 case types=>exact OkS.sub (H.t .typ n g trivial) (fun x m hx=>H.t (.typesMore [x]) _ _ ⟨hx,trivial⟩)
 case expr=>exact H.t (.binary 1) n g (C' 1)
 case binary=>exact OkS.sub (H.t .unary n g trivial) (fun x m hx=>H.t (.binMore _ n x) _ _ ⟨hf,hx⟩)
 case primary=>exact OkS.sub (H.t .operand n g trivial) (fun x m hx=>H.t (.primMore n x) _ _ hx)
 case simple=>exact OkS.sub (H.t .exprs n g trivial) (fun x m hx=>H.t (.rest n x) _ _ hx)
 case stmts=>exact H.t (.stmtsMore []) n false trivial
 case one o =>
  cases o
  all_goals (
   (try have hp3:gB E 3 (n:Int)=true:=hf)
   (try simp only [spF] at hf)
   (first|obtain⟨h1,h2,h3⟩:=hf|obtain⟨h1,h2⟩:=hf|skip)
   simp only [DF,EF,lB,eC,CE,uB,LB,IB,rC,fnB,NB,XD,NE,XC,RD,OD,XB,jB,tI,NJ,CB,nC,WE,kG,ZB,cC,uD,FE,PC,DC,SJ,sE,fC,UE,OB,QC,QE,dC,EE,ZC,lC,aD,oC,UD,dD,cD,rD,mB,PE,xE,mC,nH,oA,mA,PA,zA]
   repeat' (first|exact OkS.bad|refine OkS.ite (fun hc=>?_) (fun hd=>?_)|refine OkS.want (fun m=>?_)|refine OkS.sub WK (fun a m ha=>?_)|refine OkS.sub PL (fun a m ha=>?_)|refine OkS.sub EU (fun a m ha=>?_)|refine OkS.subP (BN H _ _ _ _ _ _) (fun a m ha=>?_)|refine OkS.sub (H.t _ _ _ ?_) (fun a m ha=>?_)|exact WK|exact PL|exact (fun _ _ h=>Ei)|refine H.t _ _ _ ?_|refine OkS.ok ?_)
   all_goals (try simp only [spF])
   all_goals first|trivial|assumption|exact C' _|exact Nat.le_add_left _ _|skip
   all_goals (repeat' (first|assumption|exact trivial|exact And.left ‹_›|exact Sps.snoc ‹_› ‹_›|exact DB (Ct)|refine Sp.list ?_ ?_|(show gB _ _ (-1)=true;first|assumption|rfl)|exact ZM Ch ‹_› (Ch)|(show gB _ _ (if _ then _ else _)=true;split)|(rw [if_pos ‹_›])|(rw [if_neg ‹_›])|exact Sps.snoc ‹_› ⟨Dz,Db,trivial⟩|refine Sps.snoc ‹_› ?_|(simp only [Bool.or_eq_true] at hc;(repeat' (rcases hc with hc|hc)) <;> exact ZM Ch hc Ch)|exact BP ‹_› ‹_›|(split <;> rfl)|refine⟨?_,?_⟩)))
 all_goals (
  (try have hp3:gB E 3 (n:Int)=true:=hf)
  (try simp only [spF] at hf)
  (first|obtain⟨h1,h2,h3⟩:=hf|obtain⟨h1,h2⟩:=hf|skip)
  simp only [DF,EF,lB,eC,CE,uB,LB,IB,rC,fnB,NB,XD,NE,XC,RD,OD,XB,jB,tI,NJ,CB,nC,WE,kG,ZB,cC,uD,FE,PC,DC,SJ,sE,fC,UE,OB,QC,QE,dC,EE,ZC,lC,aD,oC,UD,dD,cD,rD,mB,PE,xE,mC,nH,oA,mA,PA,zA]
  repeat' (first|exact OkS.bad|refine OkS.ite (fun hc=>?_) (fun hd=>?_)|refine OkS.want (fun m=>?_)|refine OkS.sub WK (fun a m ha=>?_)|refine OkS.sub PL (fun a m ha=>?_)|refine OkS.sub EU (fun a m ha=>?_)|refine OkS.subP (BN H _ _ _ _ _ _) (fun a m ha=>?_)|refine OkS.sub (H.t _ _ _ ?_) (fun a m ha=>?_)|exact WK|exact PL|exact (fun _ _ h=>Ei)|refine H.t _ _ _ ?_|refine OkS.ok ?_)
  all_goals (try simp only [spF])
  all_goals first|trivial|assumption|exact C' _|exact Nat.le_add_left _ _|skip
  all_goals (repeat' (first|assumption|exact trivial|exact And.left ‹_›|exact Sps.snoc ‹_› ‹_›|exact DB (Ct)|refine Sp.list ?_ ?_|(show gB _ _ (-1)=true;first|assumption|rfl)|exact ZM Ch ‹_› (Ch)|(show gB _ _ (if _ then _ else _)=true;split)|(rw [if_pos ‹_›])|(rw [if_neg ‹_›])|exact Sps.snoc ‹_› ⟨Dz,Db,trivial⟩|refine Sps.snoc ‹_› ?_|(simp only [Bool.or_eq_true] at hc;(repeat' (rcases hc with hc|hc)) <;> exact ZM Ch hc Ch)|exact BP ‹_› ‹_›|(split <;> rfl)|refine⟨?_,?_⟩)))
theorem kS (E:Env):∀ k,zJ E (kA E k)
 | 0=>⟨fun _ _ _ _=>fun _ _ h=>C4,fun _ _ _ _ _ _ _ _=>fun _ _ h=>C4⟩
 | k+1=>zX (kS E k)
end
section
mutual
def cnt:Tr->Nat
 | .mk _ _ _ _ ks=>1+EB ks
def EB:List Tr->Nat
 | []=>0
 | t::ts=>cnt t+EB ts
end
theorem aI:∀ (a:List Tr) (t:Tr),EB (a++[t])=EB a+cnt t
 | [],t=>by simp [EB]
 | x::a,t=>by simp only [Al,EB,aI a t];omega
theorem nP (k:UInt8) (ks:List Tr) (n:Nat):cnt (xC k ks n)=1+EB ks:=by
 cases ks <;> rfl
theorem vF (k:UInt8) (n:Nat):cnt (vA k n)=1:=rfl
theorem YR:∀ t:Tr,1<=cnt t
 | .mk _ _ _ _ ks=>by unfold cnt;omega
theorem DS:∀ {ks:List Tr}{x:Tr},x∈ks->cnt x<=EB ks
 | y::ys,x,h=>by
  rcases List.mem_cons.1 h with rfl|h
  ·simp only [EB];omega
  ·have:=DS h;simp only [EB];omega
theorem LI {s x:Tr} (h:x∈s.kids):cnt x+1<=cnt s:=by
 obtain⟨k,w,f,t,ks⟩:=s;have h2:x∈ks:=h;have:=DS h2
 show cnt x+1<=1+EB ks
 omega
def gF:F->Nat
 | .typ|.typeName|.row _|.expr|.binary _|.unary|.operand|.primary|.params|.tparams|.elements|.block|.group|.members _ _|.clauses _ _=>1
 | .names|.union|.exprs|.types|.simple|.cased _|.declared|.started|.returned|.branch=>2
 | .one .expr|.one .typ=>1
 | .one .importSpec|.one .constSpec|.one .typeSpec|.one .valueSpec|.file=>5
 | .namesMore a|.exprsMore a|.typesMore a|.stmtsMore a|.clausesMore _ _ a=>EB a+21
 | .unionMore a=>EB a+2
 | .stmts=>21
 | .binMore _ _ x|.primMore _ x|.dot _ x|.call _ x|.index _ x|.rest _ x|.overall _ _ x=>cnt x+20
 | .indexMore _ x a=>cnt x+EB a+20
 | .slice _ x lo=>cnt x+cnt lo+20
 | .fileImports a b=>cnt a+EB b+23
 | .fileDecls a b c=>cnt a+cnt b+EB c+22
 | _=>3
def OkC (n G:Nat) (r:R Tr):Prop:=∀ a m,r=.ok a m->cnt a+20*n+20<=20*m+G
def OkN (n G:Nat) (r:R (List Tr × Int)):Prop:=∀ a m,r=.ok a m->EB a.1+20*n<=20*m+G
theorem OkC.bad {n G k:Nat}:OkC n G (.bad k):=fun _ _ h=>C4
theorem OkC.ok {n G m:Nat}{a:Tr} (h:cnt a+20*n+20<=20*m+G):OkC n G (.ok a m):=fun _ _ e=>Hl
theorem OkC.ite {n G:Nat}{c:Prop} [Decidable c] {a b:R Tr} (h1:c->OkC n G a) (h2:¬ c->OkC n G b):OkC n G (if c then a else b):=by
 by_cases h:c
 ·exact Bx
 ·exact Bz
theorem OkC.up {n G n' G':Nat}{r:R Tr} (h:OkC n' G' r) (k:20*n+G'<=20*n'+G):OkC n G r:=fun a m e=>by have:=h a m e;omega
theorem OkC.sub {n G n' G':Nat}{r:R Tr}{f:Tr->Nat->R Tr} (h:OkC n' G' r) (hf:∀ a m,cnt a+20*n'+20<=20*m+G'->OkC n G (f a m)):OkC n G (r.andThen f):=by
 cases r with
 | ok a m=>exact hf a m (h a m rfl)
 | bad k=>exact OkC.bad
 | out=>exact fun _ _ h=>C4
theorem OkC.subL {n G n' G':Nat}{r:R (List Tr × Int)}{f:List Tr × Int->Nat->R Tr} (h:OkN n' G' r) (hf:∀ a m,EB a.1+20*n'<=20*m+G'->OkC n G (f a m)):OkC n G (r.andThen f):=by
 cases r with
 | ok a m=>exact hf a m (h a m rfl)
 | bad k=>exact OkC.bad
 | out=>exact fun _ _ h=>C4
theorem OkC.want {E:Env}{w:List UInt8}{n G n':Nat}{f:Unit->Nat->R Tr} (hf:∀ m,m=n'+1->OkC n G (f () m)):OkC n G ((want E w n').andThen f):=by
 unfold Go.Proofs.YtfmpphplbdojbaaGreatDoor.want;split
 ·exact hf _ rfl
 ·exact OkC.bad
theorem OkN.want {E:Env}{w:List UInt8}{n G n':Nat}{f:Unit->Nat->R (List Tr × Int)} (hf:∀ m,m=n'+1->OkN n G (f () m)):OkN n G ((want E w n').andThen f):=by
 unfold Go.Proofs.YtfmpphplbdojbaaGreatDoor.want;split
 ·exact hf _ rfl
 ·exact fun _ _ h=>C4
theorem qO {k:UInt8}{ok:Bool}{n:Nat}:OkC n 1 (leaf k ok n):=by
 unfold leaf;exact OkC.ite (fun _=>OkC.ok (by simp only [cnt,EB];omega)) (fun _=>OkC.bad)
theorem eO {E:Env}{n:Nat}:OkC n 1 (LC E n):=qO
theorem FO {E:Env}{n:Nat}:OkC n 1 (TH E n):=qO
theorem PX {E:Env}{n:Nat}:OkC n 21 (zH E n):=by unfold zH;exact OkC.ite (fun _=>FO.up Cf) (fun _=>OkC.ok Ii)
structure COk (S:AB):Prop where
 t:∀ f n g,OkC n (gF f) (S.t f n g)
 l:∀ mark shut o acc word n g,OkN n (EB acc) (S.l mark shut o acc word n g)
variable {E:Env}{S:AB}
theorem UQ (H:COk S) (a b c:List UInt8) (o:One) (n:Nat) (g:Bool):OkN (n+1) 0 (rows E S a b c o n g):=by
 unfold rows;refine OkN.want fun m hm=>?_
 subst hm;exact H.l _ _ _ _ _ _ _
theorem nQ {s:Tr}{n:Nat}:OkC n (cnt s+20) (only s n):=by
 unfold only;refine OkC.ite (fun _=>?_) (fun _=>OkC.bad);split
 ·rename_i x r hx;have:=LI (s:=s) (x:=x) Dj;exact OkC.ok Cf
 ·exact OkC.bad
theorem jV (o:One):gF (.one o)<=5:=by cases o <;> exact Nat.le_of_ble_eq_true rfl
theorem qX (H:COk S) (n:Nat) (g:Bool):OkC n 1 (CE E S n g):=by
 have h5:=jV (EN E n);unfold CE;refine OkC.ite (fun _=>OkC.subL (UQ H _ _ _ _ _ _) (fun a m ha=>OkC.want fun m2 hm=>OkC.ok ?_)) (fun _=>OkC.sub (H.t _ _ _) (fun a m ha=>OkC.ok ?_))
 ·simp only [cnt];omega
 ·simp only [cnt,EB];omega
theorem dY (H:COk S) {fr:Nat}{left:Tr} (n:Nat) (g:Bool):OkC n (cnt left+20) (WF E S fr left n g):=by
 unfold WF;refine OkC.ite (fun _=>OkC.sub (H.t .exprs _ _) (fun a m ha=>OkC.ok ?_)) (fun _=>?_)
 ·simp only [gF] at ha;simp only [cnt,EB];omega
 split
 ·rename_i x hx;have hs:=LI (s:=left) (x:=x) Dj;refine OkC.ite (fun _=>OkC.ok ?_) (fun _=>OkC.ite (fun _=>OkC.sub (H.t .expr _ _) (fun a m ha=>OkC.ok ?_)) (fun _=>OkC.ok ?_))
  ·simp only [cnt,EB];omega
  ·simp only [gF] at ha;simp only [cnt,EB];omega
  ·simp only [cnt,EB];omega
 ·exact OkC.bad
theorem BW {s a b:Tr} (he:asked E s=some (a,b)):cnt a+cnt b+1<=cnt s+1:=by
 unfold asked at he;split at he
 ·rename_i x hk hx;have hs:=LI (s:=s) (x:=x) Dj;split at he
  ·rename_i y h33 hy;cases he;have:=LI (s:=x) (x:=b) Fq;simp only [cnt,EB];omega
  ·cases he
 ·rename_i l r hk hx;have hlr:cnt l+cnt r+1<=cnt s:=by
   obtain⟨k,w,f,t,ks⟩:=s;have hx':ks=[l,r]:=hx;subst hx';simp only [cnt,EB];omega
  split at he
  ·split at he
   ·rename_i c d hc hd;have h1:=LI (s:=l) (x:=c) I7;have h2:=LI (s:=r) (x:=d) I8;split at he
    ·split at he
     ·rename_i y hy;cases he;have h3:=LI (s:=d) (x:=b) Fq;omega
     ·cases he
    ·cases he
   ·cases he
  ·cases he
 ·cases he
theorem GF (H:COk S) {fr:Nat}{a t:Tr}{s:Option Tr} (n:Nat) (g:Bool) (ht:cnt t=1):OkC n (cnt a+(match s with|some s=>cnt s|none=>0)+10) (qB E S fr a s t n g):=by
 unfold qB;cases s with
 | none=>exact OkC.sub (H.t (.clauses 62 1) _ _) (fun c m hc=>OkC.ok Er)
 | some s =>
  show OkC n _ (match asked E s with|some (name,x)=>_|none=>_)
  cases he:asked E s with
  | none=>exact OkC.sub nQ (fun t2 m ht2=>OkC.sub (H.t (.clauses 62 1) _ _) (fun c m2 hc=>OkC.ok Er))
  | some p =>
   obtain⟨x,y⟩:=p;have:=BW he;exact OkC.sub (H.t (.clauses 62 2) _ _) (fun c m hc=>OkC.ok Er)
theorem EH (H:COk S) {fr:Nat}{a:Tr} (n:Nat) (g:Bool):OkC n (cnt a+10) (nB E S fr a n g):=by
 unfold nB;refine OkC.ite (fun _=>(GF H (s:=none) n g rfl).up I0) (fun _=>OkC.sub (H.t .simple _ _) (fun s m hs=>?_));simp only [gF] at hs;exact (GF H (s:=some s) m g rfl).up I0
theorem CQ (H:COk S) (n:Nat) (g:Bool):OkC n 3 (qC E S n g):=by
 unfold qC;refine OkC.ite (fun _=>(GF H (s:=none) (n+1) g rfl).up Ii) (fun _=>OkC.ite (fun _=>(EH H (n+2) g).up Ii) (fun _=>OkC.sub (H.t .simple _ _) (fun s m hs=>OkC.ite (fun _=>(EH H (m+1) g).up (by simp only [gF] at hs;omega)) (fun _=>(GF H (s:=some s) m g rfl).up (by simp only [gF] at hs;simp only [vF];omega)))))
theorem PW (H:COk S) (mark shut:List UInt8) (o:One) (acc:List Tr) (word:Int) (n:Nat) (g:Bool):OkN n (EB acc) (LF E S mark shut o acc word n g):=by
 unfold LF;by_cases hc:E.is n shut=true
 ·rw [if_pos hc];exact fun a m e=>by cases e;exact Nat.le_of_eq I0
 rw [if_neg hc];have key:∀ r:R (Tr × Int),(∀ p m,r=.ok p m->cnt p.1+20*n<=20*m)->OkN n (EB acc) (r.andThen fun p n1=>if E.is n1 shut then S.l mark shut o (acc++[p.1]) p.2 n1 g else (want E mark n1).andThen fun _ n2=>S.l mark shut o (acc++[p.1]) p.2 n2 g):=by
  intro r hr;cases r with
  | ok p m =>
   have hp:=hr p m rfl;have hup:∀ m',m<=m'->OkN n (EB acc) (S.l mark shut o (acc++[p.1]) p.2 m' g):=by
    intro m' hm' a m2 e;have:=H.l mark shut o (acc++[p.1]) p.2 m' g a m2 e;rw [aI] at this;omega
   show OkN n (EB acc) (if E.is m shut then _ else _)
   by_cases hs:E.is m shut=true
   ·rw [if_pos hs];exact hup m (C' _)
   ·rw [if_neg hs];exact OkN.want fun m' hm'=>hup m' Cf
  | bad k=>exact fun _ _ h=>C4
  | out=>exact fun _ _ h=>C4
 refine key _ ?_;have sub:∀ (G:Nat) (r:R Tr) (f:Tr->Nat->R (Tr × Int)),OkC n G r->G<=5->(∀ a m p m',f a m=.ok p m'->p.1=a/\m<=m')->∀ p m,r.andThen f=.ok p m->cnt p.1+20*n<=20*m:=by
  intro G r f hr hG hf p m e;cases r with
  | ok a m1=>have:=hr a m1 rfl;obtain⟨h1,h2⟩:=hf a m1 p m e;rw [h1];omega
  | bad k=>cases e
  | out=>cases e
 have plain:∀ o':One,∀ p m,((S.t (.one o') n g).andThen fun x n1=>(.ok (x,word) n1:R (Tr × Int)))=.ok p m->cnt p.1+20*n<=20*m :=
  fun o'=>sub _ _ _ (H.t (.one o') n g) (jV o') (fun a m p m' e=>by cases e;exact⟨rfl,C' _⟩)
 cases o with
 | call =>
  intro p m e;have e':(if 0<=word then (R.bad n:R (Tr × Int)) else (S.t .expr n g).andThen fun x n1=>if E.is n1 [46,46,46] then .ok (x,(n1:Int)) (n1+1) else .ok (x,word) n1)=.ok p m:=e;split at e'
  ·cases e'
  ·refine sub _ _ _ (H.t .expr n g) Ch (fun a m p m' e=>?_) p m e';split at e
   ·cases e;exact⟨rfl,Cf⟩
   ·cases e;exact⟨rfl,C' _⟩
 | expr=>exact plain .expr
 | param=>exact plain .param
 | tparam=>exact plain .tparam
 | typ=>exact plain .typ
 | field=>exact plain .field
 | elem=>exact plain .elem
 | element=>exact plain .element
 | importSpec=>exact plain .importSpec
 | constSpec=>exact plain .constSpec
 | typeSpec=>exact plain .typeSpec
 | valueSpec=>exact plain .valueSpec
theorem vY (H:COk S):COk (step E S):=by
 refine⟨fun f n g=>?_,fun mark shut o acc word n g=>PW H mark shut o acc word n g⟩
 show OkC n (gF f) (DF E S f n g)
 cases f with
 | group=>exact qX H n g
 | one o =>
  cases o with
  | expr=>exact H.t .expr n g
  | typ=>exact H.t .typ n g
  | call=>exact OkC.bad
  | _ =>
   have haf:=PF E [60,45] (n+1);have haf2:=PF E [44] n;simp only [DF,EF,lB,eC,uB,LB,IB,rC,fnB,NB,XD,NE,XC,RD,OD,XB,jB,tI,NJ,CB,nC,WE,kG,ZB,cC,uD,FE,PC,DC,SJ,bG,sE,fC,UE,OB,QC,QE,dC,EE,ZC,lC,aD,oC,UD,dD,cD,rD,mB,XI,fG,xE,mC,nH,SD,kD,oA,mA,PA,zA]
   repeat' (first|exact OkC.bad|refine OkC.ite (fun _=>?_) (fun _=>?_)|refine OkC.want (fun m hm=>?_)|(refine OkC.sub eO ?_;intro a m ha)|(refine OkC.sub FO ?_;intro a m ha)|(refine OkC.sub PX ?_;intro a m ha)|(refine OkC.sub nQ ?_;intro a m ha)|(refine OkC.subL (UQ H _ _ _ _ _ _) ?_;intro a m ha)|(refine OkC.sub (H.t _ _ _) ?_;intro a m ha;simp only [gF,vF] at ha)|exact eO.up (Fj)|exact FO.up (Fj)|exact qO.up (Fj)|refine OkC.up (H.t _ _ _) ?_|refine OkC.ok ?_)
   all_goals (try simp only [gF,cnt,EB,nP,vF,aI,Ao,Al])
   all_goals first|omega|(unfold PB at ha;split at ha <;> omega)|skip
 | exprs=>exact OkC.sub (H.t .expr n g) (fun x m hx=>OkC.up (H.t (.exprsMore [x]) m g) Gk)
 | types=>exact OkC.sub (H.t .typ n g) (fun x m hx=>OkC.up (H.t (.typesMore [x]) m g) Gk)
 | expr=>exact H.t (.binary 1) n g
 | binary least=>exact OkC.sub (H.t .unary n g) (fun x m hx=>OkC.up (H.t (.binMore least n x) m g) Fb)
 | primary=>exact OkC.sub (H.t .operand n g) (fun x m hx=>OkC.up (H.t (.primMore n x) m g) Fb)
 | stmts=>exact (H.t (.stmtsMore []) n false)
 | simple=>exact OkC.sub (H.t .exprs n g) (fun x m hx=>OkC.up (H.t (.rest n x) m g) Fb)
 | rest fr left=>exact dY H n g
 | switches=>exact CQ H n g
 | cased sort =>
  show OkC n 2 (PE S sort n g)
  unfold PE;exact OkC.ite (fun _=>H.t .exprs n g) (fun _=>OkC.ite (fun _=>H.t .types n g) (fun _=>H.t .simple n g))
 | _ =>
   have haf:=PF E [60,45] (n+1);have haf2:=PF E [44] n;simp only [DF,EF,lB,eC,uB,LB,IB,rC,fnB,NB,XD,NE,XC,RD,OD,XB,jB,tI,NJ,CB,nC,WE,kG,ZB,cC,uD,FE,PC,DC,SJ,bG,sE,fC,UE,OB,QC,QE,dC,EE,ZC,lC,aD,oC,UD,dD,cD,rD,mB,XI,fG,xE,mC,nH,SD,kD,oA,mA,PA,zA]
   repeat' (first|exact OkC.bad|refine OkC.ite (fun _=>?_) (fun _=>?_)|refine OkC.want (fun m hm=>?_)|(refine OkC.sub eO ?_;intro a m ha)|(refine OkC.sub FO ?_;intro a m ha)|(refine OkC.sub PX ?_;intro a m ha)|(refine OkC.sub nQ ?_;intro a m ha)|(refine OkC.subL (UQ H _ _ _ _ _ _) ?_;intro a m ha)|(refine OkC.sub (H.t _ _ _) ?_;intro a m ha;simp only [gF,vF] at ha)|exact eO.up (Fj)|exact FO.up (Fj)|exact qO.up (Fj)|refine OkC.up (H.t _ _ _) ?_|refine OkC.ok ?_)
   all_goals (try simp only [gF,cnt,EB,nP,vF,aI,Ao,Al])
   all_goals first|omega|(unfold PB at ha;split at ha <;> omega)|skip
theorem NU (E:Env):∀ k,COk (kA E k)
 | 0=>⟨fun _ _ _=>fun _ _ h=>C4,fun _ _ _ _ _ _ _=>fun _ _ h=>C4⟩
 | k+1=>vY (NU E k)
end
section
variable {E:Env}
def IC (goal:UInt8):F:=if goal=1 then .typ else if goal=2 then .expr else if goal=3 then .stmts else .file
def DK (E:Env) (goal:UInt8) (t:Tr) (n:Nat):R Tr :=
 if goal<=2/\n+1=E.l.length then (if E.ended (PB E [59] n) then .ok t (PB E [59] n) else .bad (PB E [59] n))
 else if E.ended n then .ok t n else .bad n
def OC (E:Env):Nat:=20*E.l.length+20
def FD (E:Env) (goal:UInt8):R Tr:=((kA E (OC E)).t (IC goal) 0 false).andThen (DK E goal)
theorem LL (goal:UInt8):(kA E (OC E)).t (IC goal) 0 false≠.out:=by
 refine ends E (IC goal) ?_ false;unfold IC;split
 ·exact DA rfl (Nat.zero_le _)
 ·split
  ·exact DA rfl (Nat.zero_le _)
  ·split <;> exact DA rfl (Nat.zero_le _)
theorem BS {goal:UInt8}{t:Tr}{n:Nat}:DK E goal t n≠.out:=by
 unfold DK
 repeat' split
 all_goals (intro h;cases h)
theorem kQ {goal:UInt8}:FD E goal≠.out:=by
 unfold FD;have:=LL (E:=E) goal;cases hr:(kA E (OC E)).t (IC goal) 0 false with
 | ok t n=>exact BS
 | bad k=>intro h;cases h
 | out=>exact absurd hr this
theorem lQ {n:Nat} (h:E.ended n=true):n=E.l.length:=eq_of_beq h
theorem WI {goal:UInt8}{t:Tr}{m:Nat} (h:FD E goal=.ok t m):m=E.l.length/\∃ n,n<=E.l.length/\(kA E (OC E)).t (IC goal) 0 false=.ok t n/\(goal<=2∨n=E.l.length):=by
 unfold FD at h;cases hr:(kA E (OC E)).t (IC goal) 0 false with
 | out=>exact absurd hr (LL goal)
 | bad k=>rw [hr] at h;cases h
 | ok u n =>
  rw [hr] at h;have h2:DK E goal u n=.ok t m:=h;unfold DK at h2;split at h2
  ·rename_i hc;split at h2
   ·rename_i he;cases h2;have:=lQ he;exact⟨this,n,Cf,rfl,.inl hc.1⟩
   ·cases h2
  ·split at h2
   ·rename_i he;cases h2;have hE:=lQ he;exact⟨hE,_,Cf,rfl,.inr hE⟩
   ·cases h2
theorem DQ {goal:UInt8}{t:Tr}{m:Nat} (h:FD E goal=.ok t m):UB t/\t.to<=E.l.length:=by
 obtain⟨_,n,hn,hs,_⟩:=WI h;have hp:ttF 0 0 (IC goal):=by
  unfold IC
  repeat' split
  all_goals first|exact C' 0|rfl
 obtain⟨_,h1,_,_,h2⟩:=(pS E (OC E)).t (IC goal) 0 false 0 hp t n hs;exact⟨h1,Cf⟩
theorem gW {goal:UInt8}{t:Tr}{m:Nat} (h:FD E goal=.ok t m):Sh t:=by
 obtain⟨_,n,hn,hs,_⟩:=WI h;refine (ZF E (OC E)).t (IC goal) 0 false ?_ t n hs;unfold IC;repeat' split
 all_goals trivial
theorem VO {goal:UInt8}{t:Tr}{m:Nat} (h:FD E goal=.ok t m):Sp E t:=by
 obtain⟨_,n,hn,hs,_⟩:=WI h;refine (kS E (OC E)).t (IC goal) 0 false ?_ t n hs;unfold IC;repeat' split
 all_goals trivial
theorem VT {goal:UInt8}{t:Tr}{m:Nat} (h:FD E goal=.ok t m):cnt t<=20*E.l.length+5:=by
 obtain⟨_,n,hn,hs,_⟩:=WI h;have:=(NU E (OC E)).t (IC goal) 0 false t n hs;have hg:gF (IC goal)<=21:=by
  unfold IC;repeat' split
  all_goals exact Nat.le_of_ble_eq_true rfl
 omega
end
