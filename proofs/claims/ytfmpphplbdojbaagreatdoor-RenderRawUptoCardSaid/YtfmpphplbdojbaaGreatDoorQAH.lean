import Derived.Test.YtfmpphplbdojbaaGreatDoorQAG
import Derived.Test.YtfmpphplbdojbaaGreatDoorQAB
namespace Go.Proofs.YtfmpphplbdojbaaGreatDoor
open Lib(hid)
set_option linter.all false
set_option maxHeartbeats 40000000
set_option maxRecDepth 100000
section
open Go.RowKit
abbrev OE:Value:=.slice none 0 0
theorem fA.left {w:World}{D:Nat→Prop}:∀ {ps qs:List Nat}{ts us:List Tr},ps.length=ts.length→fA w D (ps++qs) (ts++us)→fA w D ps ts
 | [],_,[],_,_,_=>trivial
 | _::ps,_,_::ts,_,h,⟨a,b⟩=>⟨a,fA.left (by simpa using h) b⟩
 | [],_,_::_,_,h,_=>by simp at h
 | _::_,_,[],_,h,_=>by simp at h
theorem fA.last {w:World}{D:Nat→Prop}:∀ {ps:List Nat}{ts:List Tr}{q:Nat}{u:Tr},ps.length=ts.length→fA w D (ps++[q]) (ts++[u])→nA w D q u
 | [],[],_,_,_,⟨a,_⟩=>a
 | _::ps,_::ts,_,_,h,⟨_,b⟩=>fA.last (ps:=ps) (ts:=ts) (by simpa using h) b
 | [],_::_,_,_,h,_=>by simp at h
 | _::_,[],_,_,h,_=>by simp at h
theorem fA.dropLast {w:World}{D:Nat→Prop}{ps:List Nat}{ts:List Tr}{q:Nat}{u:Tr} (h:fA w D (ps++[q]) (ts++[u])):fA w D ps ts :=
 fA.left (by have:=fA.len h;simpa using this) h
theorem fA.getLast {w:World}{D:Nat→Prop}{ps:List Nat}{ts:List Tr}{q:Nat}{u:Tr} (h:fA w D (ps++[q]) (ts++[u])):nA w D q u :=
 fA.last (by have:=fA.len h;simpa using this) h
def ndD (w1:World) (p:Nat) (kv:Value) (w:World):Nat→Prop:=fun b=>w1.heap.size≤b∧b < w.heap.size∧b≠p∧kv.ownBlock≠some b
theorem ndD.later {w1 w w':World}{p:Nat}{kv:Value} (hs:w.heap.size≤w'.heap.size):∀ b,ndD w1 p kv w b→ndD w1 p kv w' b:=fun _ h=>⟨h.1,Nat.lt_of_lt_of_le h.2.1 hs,h.2.2⟩
structure Nd (E:Ev) (c:Nat) (w1:World) (p:Nat) (k:UInt8) (wd:Int) (f t:Nat) (kv:Value) (ps0:List Nat) (ts0:List Tr) (ps:List Nat) (ts:List Tr) (w:World):Prop where
 fr:Fr [c] w1 w
 cw:c < w1.heap.size
 opn:Opn w w1.heap.size p k wd f t ps0 kv
 old:fA w (ndD w1 p kv w) ps0 ts0
 kids:fA w (ndD w1 p kv w) ps ts
 z:E.zo=none∨(E.zb≠p∧kv.ownBlock≠some E.zb)
structure Rw (E:Ev) (c:Nat) (w1:World) (v:Value) (ps:List Nat) (ts:List Tr) (qs:List Nat) (us:List Tr) (w:World):Prop where
 fr:Fr [c] w1 w
 cw:c < w1.heap.size
 own:w.ownsRow w1.heap.size 51 1 v ps.length (GB ps)
 old:fA w (NI w1 v w) ps ts
 kids:fA w (NI w1 v w) qs us
 z:E.zo=none∨v.ownBlock≠some E.zb
section
variable {E:Ev}{c:Nat}{w1:World}{p:Nat}{k:UInt8}{wd:Int}{f t:Nat}{kv v:Value}{ps0:List Nat}{ts0:List Tr}{ps:List Nat}{ts:List Tr}{qs:List Nat}{us:List Tr}{q:Nat}{u:Tr}{w w':World}
theorem Nd.later (w w':World) (h:Nd E c w1 p k wd f t kv ps0 ts0 ps ts w) (hf:Fr [c] w w'):Nd E c w1 p k wd f t kv ps0 ts0 ps ts w':=by
 have hc:=h.cw;have hk:∀ b,ndD w1 p kv w b→w'.heap[b]?=w.heap[b]?:=fun b hb=>hf.block b hb.2.1 (by have:=hb.1;simp;omega)
 refine⟨h.fr.trans hf,h.cw,⟨h.opn.blk.later hf (by have:=h.opn.low;simp;omega),pD h.opn.row hf (fun b hb e=>?_),h.opn.low,h.opn.sep⟩,fA.kept hk (ndD.later hf.size) _ _ h.old,fA.kept hk (ndD.later hf.size) _ _ h.kids,h.z⟩;simp at hb;subst hb;have:=(h.opn.row.lt _ e).1;omega
theorem Nd.apart (h:Nd E c w1 p k wd f t kv ps0 ts0 ps ts w) {hi:Nat} (hh:hi≤w'.heap.size):∀ b,within w.heap.size hi b→ndD w1 p kv w' b:=fun b hb=>by
 have h1:=h.fr.size;have h2:=h.opn.blk.lt;obtain⟨b1,b2⟩:=hb;refine⟨by omega,by omega,by omega,fun e=>?_⟩;have:=(h.opn.row.lt _ e).2;omega
theorem Nd.kid (h:Nd E c w1 p k wd f t kv ps0 ts0 ps ts w) (hf:Fr [c] w w') (hn:EA w' w.heap.size w'.heap.size q u):Nd E c w1 p k wd f t kv ps0 ts0 (ps++[q]) (ts++[u]) w':=by
 have h':=Nd.later w w' h hf;exact⟨h'.fr,h'.cw,h'.opn,h'.old,fA.append h'.kids ⟨nA.kept (fun _ _=>rfl) (h.apart (Nat.le_refl _)) q u hn,trivial⟩,h.z⟩
theorem Nd.drop (h:Nd E c w1 p k wd f t kv ps0 ts0 (ps++[q]) (ts++[u]) w):Nd E c w1 p k wd f t kv ps0 ts0 ps ts w:=⟨h.fr,h.cw,h.opn,h.old,h.kids.dropLast,h.z⟩
theorem Nd.own {k':UInt8}{wd':Int}{f' t':Nat} (h:Nd E c w1 p k wd f t kv ps0 ts0 ps ts w) (hf:Fr [p] w w') (ho:YC w' p k' wd' f' t' kv):Nd E c w1 p k' wd' f' t' kv ps0 ts0 ps ts w':=by
 have hk:∀ b,ndD w1 p kv w b→w'.heap[b]?=w.heap[b]?:=fun b hb=>hf.block b hb.2.1 (by have:=hb.2.2.1;simpa using this)
 exact⟨h.fr.trans' hf (fun i hi=>.inr (by have:=h.opn.low;simp at hi;omega)),h.cw,⟨ho,pD h.opn.row hf (fun b hb=>by simp at hb;subst hb;exact h.opn.sep),h.opn.low,h.opn.sep⟩,
  fA.kept hk (ndD.later hf.size) _ _ h.old,fA.kept hk (ndD.later hf.size) _ _ h.kids,h.z⟩
theorem Nd.word (h:Nd E c w1 p k wd f t kv ps0 ts0 ps ts w) (wd':Int):Nd E c w1 p k wd' f t kv ps0 ts0 ps ts (w.setCell ⟨p,1,none⟩ (.int .i64 wd')):=h.own (NA p 1 w _) (h.opn.blk.named_ wd')
theorem Nd.kind_ (h:Nd E c w1 p k wd f t kv ps0 ts0 ps ts w) (k':UInt8):Nd E c w1 p k' wd f t kv ps0 ts0 ps ts (w.setCell ⟨p,0,none⟩ (.int .u8 (k'.toNat:Int))):=h.own (NA p 0 w _) (h.opn.blk.kinded k')
theorem Nd.new (h:Fr [c] w1 w) (hc:c < w1.heap.size) (hp:w1.heap.size≤p) (ho:YC w p k wd f t OE) (hz:E.zo=none∨E.zb≠p):Nd E c w1 p k wd f t OE [] [] [] [] w :=
 ⟨h,hc,⟨ho,World.ownsRow_nil _ _ _ _,hp,by simp [Value.ownBlock]⟩,trivial,trivial,hz.imp id (fun h=>⟨h,by simp [Value.ownBlock]⟩)⟩
theorem Opn.tree {lo:Nat} (h:Opn w lo p k wd f t ps kv) (hk:fA w (within lo w.heap.size) ps ts):EA w lo w.heap.size p (.mk k wd f t ts):=h.done hk (Nat.le_refl _)
theorem NI.later {w1 w w':World}{v:Value} (hs:w.heap.size≤w'.heap.size):∀ b,NI w1 v w b→NI w1 v w' b:=fun _ h=>⟨h.1,Nat.lt_of_lt_of_le h.2.1 hs,h.2.2⟩
theorem Rw.start (h:Fr [c] w1 w) (hc:c < w1.heap.size):Rw E c w1 OE [] [] [] [] w:=⟨h,hc,World.ownsRow_nil _ _ _ _,trivial,trivial,.inr (by simp [Value.ownBlock])⟩
theorem Rw.later (w w':World) (h:Rw E c w1 v ps ts qs us w) (hf:Fr [c] w w'):Rw E c w1 v ps ts qs us w':=by
 have hc:=h.cw;have hk:∀ b,NI w1 v w b→w'.heap[b]?=w.heap[b]?:=fun b hb=>hf.block b hb.2.1 (by have:=hb.1;simp;omega)
 refine⟨h.fr.trans hf,h.cw,pD h.own hf (fun b hb e=>?_),fA.kept hk (NI.later hf.size) _ _ h.old,fA.kept hk (NI.later hf.size) _ _ h.kids,h.z⟩;simp at hb;subst hb;have:=(h.own.lt _ e).1;omega
theorem Rw.apart (h:Rw E c w1 v ps ts qs us w) {hi:Nat} (hh:hi≤w'.heap.size):∀ b,within w.heap.size hi b→NI w1 v w' b:=fun b hb=>by
 have h1:=h.fr.size;obtain⟨b1,b2⟩:=hb;refine⟨by omega,by omega,fun e=>?_⟩;have:=(h.own.lt _ e).2;omega
theorem Rw.kid (h:Rw E c w1 v ps ts qs us w) (hf:Fr [c] w w') (hn:EA w' w.heap.size w'.heap.size q u):Rw E c w1 v ps ts (qs++[q]) (us++[u]) w':=by
 have h':=Rw.later w w' h hf;exact⟨h'.fr,h'.cw,h'.own,h'.old,fA.append h'.kids ⟨nA.kept (fun _ _=>rfl) (h.apart (Nat.le_refl _)) q u hn,trivial⟩,h.z⟩
theorem Rw.drop (h:Rw E c w1 v ps ts (qs++[q]) (us++[u]) w):Rw E c w1 v ps ts qs us w:=⟨h.fr,h.cw,h.own,h.old,h.kids.dropLast,h.z⟩
theorem Rw.lit (h:Rw E c w1 OE [] [] qs us w) (hsm:qs.length≤maxLen) (hzz:E.zo=none∨E.zb < w.heap.size):Rw E c w1 (.slice (some ⟨w.heap.size,0,none⟩) qs.length qs.length) qs us [] [] (w.alloc (.cells (GB qs).toArray 51)):=by
 have hB:=(Below.refl w.heap.size w).alloc (Nat.le_refl _) (Obj.cells (GB qs).toArray 51);have hz:=h.fr.size;refine⟨h.fr.trans (lA c hB),h.cw,⟨by simp [DJ],.inr ⟨w.heap.size,qs.length,(GB qs).toArray,rfl,hz,heap_alloc_new w _,Nat.le_refl _,hsm,by simp [DJ],?_⟩⟩,?_,trivial,hzz.imp id (fun h e=>by simp [Value.ownBlock] at e;omega)⟩
 ·rw [Nat.mul_one,List.take_of_length_le (by simp [DJ])]
 ·refine fA.kept (fun b hb=>hB.block b hb.2.1) (fun b hb=>⟨hb.1,by have:=hb.2.1;simp;omega,fun e=>?_⟩) _ _ h.kids;simp [Value.ownBlock] at e;have:=hb.2.1;omega
theorem Rw.more {v5:Value}{w5:World} (h:Rw E c w1 v ps ts [q] [u] w) (hf:Fr [c] w1 w5)
  (hown:w5.ownsRow w1.heap.size 51 1 v5 (ps.length+1) (GB ps++GB [q])) (hk:∀ b,b < w.heap.size→v.ownBlock≠some b→w5.heap[b]?=w.heap[b]?) (hs:w.heap.size≤w5.heap.size)
  (hat:v5.ownBlock=v.ownBlock∨∃ b,v5.ownBlock=some b∧w.heap.size≤b) (hzz:E.zo=none∨E.zb < w.heap.size):Rw E c w1 v5 (ps++[q]) (ts++[u]) [] [] w5:=by
 have h5:∀ b,NI w1 v w b→NI w1 v5 w5 b:=by
  intro b hb;refine⟨hb.1,Nat.lt_of_lt_of_le hb.2.1 hs,fun e=>?_⟩;rcases hat with x|⟨b',x,hx⟩
  ·exact hb.2.2 (x ▸ e)
  ·rw [x] at e;cases e;have:=hb.2.1;omega
 have hk':∀ b,NI w1 v w b→w5.heap[b]?=w.heap[b]?:=fun b hb=>hk b hb.2.1 hb.2.2
 refine⟨hf,h.cw,?_,fA.append (fA.kept hk' h5 _ _ h.old) (fA.kept hk' h5 _ _ h.kids),trivial,?_⟩
 ·rw [List.length_append,show GB (ps++[q])=GB ps++GB [q] from by simp [GB]];exact hown
 ·rcases h.z with z|z
  ·exact .inl z
  ·rcases hat with x|⟨b',x,hx⟩
   ·exact .inr (by rw [x];exact z)
   ·exact hzz.imp id (fun h e=>by rw [x] at e;cases e;omega)
theorem Rw.row (h:Rw E c w1 v ps ts qs us w):∃ (ka:Option Addr) (cap:Nat),v=.slice ka ps.length cap∧rM w w1.heap.size w.heap.size ka ps∧iG w w1.heap.size w.heap.size ps ts:=by
 obtain⟨a,cap,rfl⟩:=xB h.own;exact⟨a,cap,rfl,rM.of_own h.own (Nat.le_refl _),fA.kept (fun _ _=>rfl) (fun b hb=>⟨hb.1,hb.2.1⟩) _ _ h.old⟩
theorem Rw.tree (h:Rw E c w1 v ps ts [q] [u] w):EA w w1.heap.size w.heap.size q u:=nA.kept (fun _ _=>rfl) (fun b hb=>⟨hb.1,hb.2.1⟩) q u h.kids.1
end
theorem yL {E:Ev}{c n:Nat}{g:Bool}{w:World} (h:Rd E c n g w) {lo p:Nat}{k:UInt8}{wd:Int}{f t:Nat}{ps:List Nat}{kv:Value} (ho:Opn w lo p k wd f t ps kv) (hlo:c < lo) (hz:E.zo=none∨(E.zb≠p∧kv.ownBlock≠some E.zb)) :
  Calls Tryz.prog 113 #[.pointer (some ⟨c,0,none⟩),.pointer (some ⟨p,0,none⟩),.slice none 0 0] w (ZV E c n g lo p k wd f ps kv w):=by
 obtain⟨iP,hiP,hz0,hz1,hz2⟩:=info_parts Tryz.infoP;obtain⟨va,vc,rfl⟩:=xB ho.row;obtain⟨k0,k1,k2,k3,k4⟩:=ho.blk.cells;have hrow:=ho.row;have HR:=hid h;have HO:=hid ho;have HZZ:=hid hz;clear hz;have f4:=HO.out.blk.free 4;clear h ho;go_enter Tryz.func113,Tryz.ntmps113;go_upto_region 2 with (at_builtin;refine wpList_append_own_none rfl _ _ 59 rfl lo 51 iP 1 Tryz.underlying59 hiP _ _ _ rfl hrow rfl ?_);have hO2:=HO.out.blk.kids (.slice va ps.length vc);have hF2:Fr [p] w (w.setCell ⟨p,4,none⟩ (.slice va ps.length vc)):=Fr.set (a:=⟨p,4,none⟩);have hcp:c < p:=by have:=HO.out.low;omega
 have hR2:=HR.out.later hF2 (fun k hk=>by simp at hk;omega) (HZZ.out.imp id (fun h m=>h.1 (by simpa using m)));have hrow2:=pD hrow hF2 (fun b' hb'=>by simp at hb';subst hb';exact HO.out.sep);clear f4 hrow k0 k1 k2 k3 k4;generalize w.setCell ⟨p,4,none⟩ (.slice va ps.length vc)=w2 at *;obtain⟨h0,h1,h2,h3,h4⟩:=hR2.cells;obtain⟨l0,l1,l2,l3,l4⟩:=hO2.cells;have f3:=hO2.free 3;have HZ:=hid (And.intro hO2 (And.intro hR2 (And.intro hrow2 (And.intro hF2 hcp))));clear hO2 hR2 hrow2 hF2 hcp;go_wp2_with fail;go_ret;obtain⟨hO2,hR2,hrow2,hF2,hcp⟩:=HZ.out;have hF3:Fr [p] w2 (w2.setCell ⟨p,3,none⟩ (.int .i64 (n:Int))):=Fr.set (a:=⟨p,3,none⟩);refine⟨rfl,⟨_,hO2.end_ n,?_,HO.out.low,HO.out.sep⟩,hR2.later hF3 (fun k hk=>by simp at hk;omega) (HZZ.out.imp id (fun h m=>h.1 (by simpa using m))),(hF2.trans hF3).weaken (fun k _ hk=>by simp at hk;simp [hk])⟩;exact pD hrow2 hF3 (fun b' hb'=>by simp at hb';subst hb';exact HO.out.sep)
end
section
open Go.RowKit
def xD:F→FuncId
 | .group=>110|.fn=>112|.signature=>146|.params=>161
 | .tparams=>162|.names=>184|.union=>185|.typ=>65|.typeName=>144
 | .exprs=>228|.types=>252|.expr=>66|.unary=>151|.operand=>211|.primary=>186
 | .elements=>218|.value=>263|.stmts=>67|.block=>163|.stmt=>154
 | .declared=>219|.started=>220|.returned=>221|.branch=>222|.simple=>189
 | .ifs=>223|.switches=>224|.selects=>225|.fors=>226
 | .one .param=>193|.one .field=>148|.one .elem=>149|.one .element=>247
 | .one .importSpec=>157|.one .constSpec=>158|.one .typeSpec=>159|.one .valueSpec=>156
 | .one .expr=>66|.one .typ=>65|.cased s=>if s=1 then 228 else if s=2 then 252 else 189
 | _=>0
abbrev fE (E:Ev) (c:Nat) (g:Bool) (r:R Tr) (w0:World) (p:Nat) (e:Ending) (w':World):Prop:=XJ (fun q=>q=p) E c g r w0 e w'
def cJ (E:Ev) (c:Nat) (g:Bool) (r:R Tr) (w0:World) (p:Nat) (e:Ending) (w':World):Prop :=
 match r with
 | .ok t n=>e=.returned (.tuple #[])∧Rd E c n g w'∧EA w' w0.heap.size w'.heap.size p t∧Fr [c] w0 w'
 | .bad k=>e=Up k∧(∃ g',Rd E c k g' w')∧Fr [c] w0 w'
 | .out=>False
def eY:One→FuncId|.field=>148|_=>149
def okM:One→Bool|.field=>true|.elem=>true|_=>false
structure aB (E:Ev) (S:AB):Prop where
 t:∀ f c n g w,xD f≠0→pre E.toEnv f n→Rd E c n g w→S.t f n g≠.out→Calls Tryz.prog (xD f) #[.pointer (some ⟨c,0,none⟩)] w (Ans E c g (S.t f n g) w)
 b:∀ (least:Nat) c n g w,1≤least→least≤100→Rd E c n g w→S.t (.binary least) n g≠.out→Calls Tryz.prog 104 #[.pointer (some ⟨c,0,none⟩),.int .i64 (least:Int)] w (Ans E c g (S.t (.binary least) n g) w)
 row:∀ fr c n w0 w p t0,Rd E c n false w→Nd E c w0 p 0 (-1) fr t0 OE [] [] [] [] w→S.t (.row fr) n false≠.out →
  Calls Tryz.prog 145 #[.pointer (some ⟨c,0,none⟩),.pointer (some ⟨p,0,none⟩)] w (Ans E c false (S.t (.row fr) n false) w0)
 members:∀ kd o c n g w0 w p k wd fr t0,okM o=true→Rd E c n g w→Nd E c w0 p k wd fr t0 OE [] [] [] [] w→S.t (.members kd o) n g≠.out →
  Calls Tryz.prog 147 #[.pointer (some ⟨c,0,none⟩),.pointer (some ⟨p,0,none⟩),.int .u8 (kd.toNat:Int),.func (.func (eY o)) #[.pointer (some ⟨c,0,none⟩)] #[]] w
   (Ans E c g ((S.t (.members kd o) n g).andThen fun m n1=>.ok (.mk k wd fr n1 [m]) n1) w0)
 dot:∀ fr x c n g w0 w p t0 kv q,n < E.l.length→Rd E c n g w→Nd E c w0 p 0 (-1) fr t0 kv [q] [x] [] [] w→S.t (.dot fr x) n g≠.out →
  Calls Tryz.prog 212 #[.pointer (some ⟨c,0,none⟩),.pointer (some ⟨p,0,none⟩)] w (cJ E c g (S.t (.dot fr x) n g) w0 p)
 call:∀ fr x c n g w0 w p t0 kv q,n < E.l.length→Rd E c n g w→Nd E c w0 p 0 (-1) fr t0 kv [q] [x] [] [] w→S.t (.call fr x) n g≠.out →
  Calls Tryz.prog 214 #[.pointer (some ⟨c,0,none⟩),.pointer (some ⟨p,0,none⟩)] w (fE E c g (S.t (.call fr x) n g) w0 p)
 index:∀ fr x c n g w0 w p t0 kv q,n < E.l.length→Rd E c n g w→Nd E c w0 p 0 (-1) fr t0 kv [q] [x] [] [] w→S.t (.index fr x) n g≠.out →
  Calls Tryz.prog 216 #[.pointer (some ⟨c,0,none⟩),.pointer (some ⟨p,0,none⟩)] w (fE E c g (S.t (.index fr x) n g) w0 p)
 slice:∀ fr x lo c n g w0 w p k t0 kv q ql,Rd E c n g w→Nd E c w0 p k (-1) fr t0 kv [q] [x] [ql] [lo] w→S.t (.slice fr x lo) n g≠.out →
  Calls Tryz.prog 244 #[.pointer (some ⟨c,0,none⟩),.pointer (some ⟨p,0,none⟩),.pointer (some ⟨ql,0,none⟩)] w (fE E c g (S.t (.slice fr x lo) n g) w0 p)
 rest:∀ fr left c n g w0 w p t0 ql,Rd E c n g w→Nd E c w0 p 0 (-1) fr t0 OE [] [] [ql] [left] w→S.t (.rest fr left) n g≠.out →
  Calls Tryz.prog 227 #[.pointer (some ⟨c,0,none⟩),.pointer (some ⟨p,0,none⟩),.pointer (some ⟨ql,0,none⟩)] w (fE E c g (S.t (.rest fr left) n g) w0 p)
 overall:∀ fr wd left c n g w0 w p k t0 ql,Rd E c n g w→Nd E c w0 p k wd fr t0 OE [] [] [ql] [left] w→S.t (.overall fr wd left) n g≠.out →
  Calls Tryz.prog 253 #[.pointer (some ⟨c,0,none⟩),.pointer (some ⟨p,0,none⟩),.pointer (some ⟨ql,0,none⟩)] w (Ans E c g (S.t (.overall fr wd left) n g) w0)
 clauses:∀ (kd:UInt8) sort c n g w,(sort=1∨sort=2∨sort=3)→Rd E c n g w→S.t (.clauses kd sort) n g≠.out →
  Calls Tryz.prog 250 #[.pointer (some ⟨c,0,none⟩),.int .u8 (kd.toNat:Int),.func (.func (xD (.cased sort))) #[.pointer (some ⟨c,0,none⟩)] #[]] w (Ans E c g (S.t (.clauses kd sort) n g) w)
structure Sx (E:Ev) (c n:Nat) (g:Bool) (w0:World) (P:World→Prop) (T X:R Tr) (w:World):Prop where
 rd:Rd E c n g w
 fr:Fr [c] w0 w
 cw:c < w0.heap.size
 ex:P w
 keep:∀ w w',P w→Fr [c] w w'→P w'
 eq:T=X
 ne:T≠.out
theorem Ans.shape {E:Ev}{c:Nat}{g:Bool}{w:World}{r:R Tr}{e:Ending}{w':World} (h:Ans E c g r w e w'):(∃ p,e=.returned (.pointer (some ⟨p,0,none⟩)))∨(∃ k,e=Up k):=by
 cases r with
 | ok t m=>obtain⟨p,h,_⟩:=h;exact .inl ⟨p,h⟩
 | bad k=>exact .inr ⟨k,h.1⟩
 | out=>exact h.elim
theorem New.ans {E:Ev}{c n:Nat}{g:Bool}{w:World}{k:UInt8}{e:Ending}{w':World} (h:New E c n g k (-1) n n w e w'):Ans E c g (.ok (vA k n) n) w e w':=by
 obtain⟨p,a0,a1,a2,a3,a4⟩:=h;exact⟨p,a0,a3,EG a2 a1 a2.lt,lA c a4⟩
section
variable {E:Ev}{S:AB}{c n:Nat}{g:Bool}{w0:World}{P:World→Prop}{T X:R Tr}{w:World}{Q:Ending→World→Prop}
theorem Sx.start (h:Rd E c n g w) (hr:T≠.out) (hX:T=X):Hid (Sx E c n g w (fun _=>True) T X w):=⟨h,Fr.refl _ _,h.lt,trivial,fun _ _ _ _=>trivial,hX,hr⟩
theorem Sx.free (h:Hid (Sx E c n g w0 P T X w)):Hid (Sx E c n g w0 (fun _=>True) T X w):=⟨h.out.rd,h.out.fr,h.out.cw,trivial,fun _ _ _ _=>trivial,h.out.eq,h.out.ne⟩
theorem Sx.re {Y:R Tr} (h:Hid (Sx E c n g w0 P T X w)) (e:X=Y):Hid (Sx E c n g w0 P T Y w):=by cases e;exact h
theorem Sx.pos {A B:R Tr}{b:Prop} [Decidable b] (h:Hid (Sx E c n g w0 P T (if b then A else B) w)) (hb:b):Hid (Sx E c n g w0 P T A w):=Sx.re h (if_pos hb)
theorem Sx.neg {A B:R Tr}{b:Prop} [Decidable b] (h:Hid (Sx E c n g w0 P T (if b then A else B) w)) (hb:¬ b):Hid (Sx E c n g w0 P T B w):=Sx.re h (if_neg hb)
theorem Sx.step {m:Nat}{w':World}{Y:R Tr} (h:Sx E c n g w0 P T X w) (hf:Fr [c] w w') (hr:Rd E c m g w') (he:X=Y):Sx E c m g w0 P T Y w' :=
 ⟨hr,h.fr.trans hf,h.cw,h.keep _ _ h.ex hf,h.keep,h.eq.trans he,h.ne⟩
theorem Sx.below {w':World} (h:Sx E c n g w0 P T X w) (hb:Below w.heap.size w w'):Sx E c n g w0 P T X w':=h.step (lA c hb) (h.rd.below hb) rfl
theorem Sx.bad {k:Nat}{w':World} (h:Sx E c n g w0 P T X w) (he:X=.bad k) (hr:∃ g',Rd E c k g' w') (hf:Fr [c] w w'):Ans E c g T w0 (Up k) w':=by
 rw [h.eq,he];exact⟨rfl,hr,h.fr.trans hf⟩
theorem Sx.with {P':World→Prop} (h:Sx E c n g w0 P T X w) (hP:P' w) (hk:∀ w w',P' w→Fr [c] w w'→P' w'):Sx E c n g w0 P' T X w:=⟨h.rd,h.fr,h.cw,hP,hk,h.eq,h.ne⟩
theorem yB (h:Hid (Sx E c n g w0 P T X w)) (k:UInt8) (hQ:∀ p w',Hid (Sx E c n g w0 (Nd E c w0 p k (-1) n 0 OE [] [] [] []) T X w')→Q (.returned (.pointer (some ⟨p,0,none⟩))) w') :
  Calls Tryz.prog 106 #[.pointer (some ⟨c,0,none⟩),.int .u8 (k.toNat:Int)] w Q:=by
 refine (uP h.out.rd k).mono ?_;rintro e w' ⟨p,rfl,a1,a2,a3,a4⟩;exact hQ p w' ((h.out.step (lA c a4) a3 rfl).with (Nd.new (h.out.fr.trans (lA c a4)) h.out.cw (by have:=h.out.fr.size;omega) a2 (h.out.rd.zlt.imp id (fun h=>by omega))) Nd.later)
theorem TK (h:Hid (Sx E c n g w0 P T X w)) (k:UInt8) (hQ:∀ p w',Hid (Sx E c n g w0 (Nd E c w p k (-1) n 0 OE [] [] [] []) T X w')→Q (.returned (.pointer (some ⟨p,0,none⟩))) w') :
  Calls Tryz.prog 106 #[.pointer (some ⟨c,0,none⟩),.int .u8 (k.toNat:Int)] w Q:=by
 refine (uP h.out.rd k).mono ?_;rintro e w' ⟨p,rfl,a1,a2,a3,a4⟩;exact hQ p w' ((h.out.step (lA c a4) a3 rfl).with (Nd.new (lA c a4) h.out.rd.lt a1 a2 (h.out.rd.zlt.imp id (fun h=>by omega))) Nd.later)
theorem FA {K:Unit→Nat→R Tr}{x:UInt8}{ws:List UInt8} (h:Hid (Sx E c n g w0 P T ((want E.toEnv (x::ws) n).andThen K) w))
  (hB:∀ k w',Ans E c g T w0 (Up k) w'→Q (Up k) w') (hQ:∀ n' w',Hid (Sx E c n' g w0 P T (K () n') w')→Q (.returned (.tuple #[])) w') :
  Calls Tryz.prog 107 #[.pointer (some ⟨c,0,none⟩),.string ⟨(x::ws).toArray⟩] w Q:=by
 refine (NH h.out.rd x ws).mono ?_;intro e w' hD;have hh:=h.out;cases h1:want E.toEnv (x::ws) n with
 | out=>rw [h1] at hD;exact hD.elim
 | bad k=>rw [h1] at hD hh;obtain⟨rfl,q1,q2⟩:=hD;exact hB k w' (hh.bad rfl q1 q2)
 | ok u m=>rw [h1] at hD hh;obtain⟨rfl,q1,q2⟩:=hD;exact hQ m w' (hh.step q2 q1 rfl)
theorem cA (h:Hid (Sx E c n g w0 P T X w)) (hQ:∀ w',Hid (Sx E c n g w0 P T X w')→Q (.returned (.string ⟨(E.word (n:Int)).toArray⟩)) w') :
  Calls Tryz.prog 109 #[.pointer (some ⟨c,0,none⟩)] w Q:=by
 refine (pE h.out.rd).mono ?_;rintro e w' ⟨rfl,hb⟩;exact hQ w' (h.out.below hb)
theorem OA (h:Hid (Sx E c n g w0 P T X w)) (i:Int) (hQ:∀ w',Hid (Sx E c n g w0 P T X w')→Q (.returned (.string ⟨(E.word i).toArray⟩)) w') :
  Calls Tryz.prog 29 #[.pointer (some ⟨c,0,none⟩),.int .i64 i] w Q:=by
 refine (BH E c i w h.out.rd.cells.1 h.out.rd.cells.2.1 h.out.rd.lie).mono ?_;rintro e w' ⟨rfl,hb⟩;exact hQ w' (h.out.below hb)
theorem RB (h:Hid (Sx E c n g w0 P T X w)) (i:Int) (b:Bool) (hb:E.named i=b) (hQ:∀ w',Hid (Sx E c n g w0 P T X w')→Q (.returned (.bool b)) w') :
  Calls Tryz.prog 143 #[.pointer (some ⟨c,0,none⟩),.int .i64 i] w Q:=by
 subst hb;refine (eK h.out.rd i).mono ?_;rintro e w' ⟨rfl,hb⟩;exact hQ w' (h.out.below hb)
theorem QY (h:Hid (Sx E c n g w0 P T X w)) (i:Int) (b:Bool) (hb:E.quoted i=b) (hQ:∀ w',Hid (Sx E c n g w0 P T X w')→Q (.returned (.bool b)) w') :
  Calls Tryz.prog 208 #[.pointer (some ⟨c,0,none⟩),.int .i64 i] w Q:=by
 subst hb;refine (VI h.out.rd i).mono ?_;rintro e w' ⟨rfl,hb⟩;exact hQ w' (h.out.below hb)
theorem AD (h:Hid (Sx E c n g w0 P T X w)) (b:Bool) (hb:E.ended n=b) (hQ:∀ w',Hid (Sx E c n g w0 P T X w')→Q (.returned (.bool b)) w') :
  Calls Tryz.prog 70 #[.pointer (some ⟨c,0,none⟩)] w Q:=by
 subst hb;refine (tT h.out.rd).mono ?_;rintro e w' ⟨rfl,hb⟩;exact hQ w' (h.out.below hb)
theorem vE {x:UInt8}{ws:List UInt8} (h:Hid (Sx E c n g w0 P T X w)) (h1:E.is n (x::ws)=true) (hQ:∀ n' w',n'=n+1→Hid (Sx E c n' g w0 P T X w')→Q (.returned (.bool true)) w') :
  Calls Tryz.prog 69 #[.pointer (some ⟨c,0,none⟩),.string ⟨(x::ws).toArray⟩] w Q:=by
 refine (aK h.out.rd x ws).mono ?_;rintro e w' ⟨rfl,q1,q2⟩;have ha:PB E.toEnv (x::ws) n=n+1:=by unfold PB;rw [if_pos h1]
 rw [ha] at q1;rw [h1];exact hQ _ w' rfl (h.out.step q2 q1 rfl)
theorem gH {x:UInt8}{ws:List UInt8} (h:Hid (Sx E c n g w0 P T X w)) (h1:E.is n (x::ws)=false) (hQ:∀ w',Hid (Sx E c n g w0 P T X w')→Q (.returned (.bool false)) w') :
  Calls Tryz.prog 69 #[.pointer (some ⟨c,0,none⟩),.string ⟨(x::ws).toArray⟩] w Q:=by
 refine (aK h.out.rd x ws).mono ?_;rintro e w' ⟨rfl,q1,q2⟩;have ha:PB E.toEnv (x::ws) n=n:=by unfold PB;rw [if_neg (by rw [h1];decide)]
 rw [ha] at q1;rw [h1];exact hQ w' (h.out.step q2 q1 rfl)
theorem IY {x:UInt8}{ws:List UInt8} (h:Hid (Sx E c n g w0 P T X w)) (hQ:∀ w',Hid (Sx E c (PB E.toEnv (x::ws) n) g w0 P T X w')→Q (.returned (.bool (E.is n (x::ws)))) w') :
  Calls Tryz.prog 69 #[.pointer (some ⟨c,0,none⟩),.string ⟨(x::ws).toArray⟩] w Q:=by
 refine (aK h.out.rd x ws).mono ?_;rintro e w' ⟨rfl,q1,q2⟩;exact hQ w' (h.out.step q2 q1 rfl)
theorem nO {x:UInt8}{ws:List UInt8} (h:Hid (Sx E c n g w0 P T X w)) (hQ:∀ n' b w',n'=PB E.toEnv (x::ws) n→Hid (Sx E c n' g w0 P T X w')→Q (.returned (.bool b)) w') :
  Calls Tryz.prog 69 #[.pointer (some ⟨c,0,none⟩),.string ⟨(x::ws).toArray⟩] w Q:=IY h (fun w' hh=>hQ _ _ w' rfl hh)
theorem rG (h:Hid (Sx E c n g w0 P T (.bad n) w)) (hB:∀ k w',Ans E c g T w0 (Up k) w'→Q (Up k) w'):Calls Tryz.prog 71 #[.pointer (some ⟨c,0,none⟩)] w Q:=by
 refine (VH h.out.rd).mono ?_;rintro e w' ⟨rfl,rfl⟩;exact hB n w' (h.out.bad rfl ⟨g,h.out.rd⟩ (Fr.refl _ _))
theorem Sx.ans {r:R Tr}{K:Tr→Nat→R Tr}{e:Ending}{w':World} (h:Sx E c n g w0 P T (r.andThen K) w) (hA:Ans E c g r w e w')
  (hB:∀ k w',Ans E c g T w0 (Up k) w'→Q (Up k) w') (hQ:∀ q u n' w',Sx E c n' g w0 P T (K u n') w'→EA w' w.heap.size w'.heap.size q u→P w→Fr [c] w w'→Q (.returned (.pointer (some ⟨q,0,none⟩))) w'):Q e w':=by
 cases r with
 | out=>exact hA.elim
 | bad k=>obtain⟨rfl,q1,q2⟩:=hA;exact hB k w' (h.bad rfl q1 q2)
 | ok u m=>obtain⟨q,rfl,q1,q2,q3⟩:=hA;exact hQ q u m w' (h.step q3 q1 rfl) q2 h.ex q3
end
section
variable {E:Ev}{S:AB}{c n:Nat}{g:Bool}{w0 w1:World}{p:Nat}{k:UInt8}{wd:Int}{f t:Nat}{kv v:Value}{ps0:List Nat}{ts0:List Tr}{ps:List Nat}{ts:List Tr}{rs:List Nat}{us:List Tr}{T X:R Tr}{w:World}{Q:Ending→World→Prop}
theorem IX {P:World→Prop}{P':Nat→Tr→World→Prop}{fn:FuncId}{args:Array Value}{r:R Tr}{K:Tr→Nat→R Tr} (h:Hid (Sx E c n g w0 P T (r.andThen K) w)) (hC:r≠.out→Calls Tryz.prog fn args w (Ans E c g r w))
  (hP:∀ q u w',P w→Fr [c] w w'→EA w' w.heap.size w'.heap.size q u→P' q u w') (hK:∀ q u w w',P' q u w→Fr [c] w w'→P' q u w')
  (hB:∀ k w',Ans E c g T w0 (Up k) w'→Q (Up k) w') (hQ:∀ q u n' w',Hid (Sx E c n' g w0 (P' q u) T (K u n') w')→Q (.returned (.pointer (some ⟨q,0,none⟩))) w'):Calls Tryz.prog fn args w Q:=by
 refine (hC (fun e=>h.out.ne (by rw [h.out.eq,e];rfl))).mono ?_;intro e w' hA;exact h.out.ans hA hB (fun q u n' w' a b d e=>hQ q u n' w' (a.with (hP q u w' d e b) (hK q u)))
theorem fZ {P:World→Prop}{fn:FuncId}{args:Array Value}{r:R Tr}{K:Tr→Nat→R Tr} (h:Hid (Sx E c n g w0 P T (r.andThen K) w)) (hC:r≠.out→Calls Tryz.prog fn args w (Ans E c g r w0))
  (hB:∀ k w',Ans E c g T w0 (Up k) w'→Q (Up k) w') (hQ:∀ q u n' w',Hid (Sx E c n' g w0 (Rw E c w0 OE [] [] [q] [u]) T (K u n') w')→Q (.returned (.pointer (some ⟨q,0,none⟩))) w'):Calls Tryz.prog fn args w Q:=by
 refine (hC (fun e=>h.out.ne (by rw [h.out.eq,e];rfl))).mono ?_;intro e w' hA;have hh:=h.out;cases r with
 | out=>exact hA.elim
 | bad k=>obtain⟨rfl,q1,q2⟩:=hA;exact hB k w' (by rw [hh.eq];exact⟨rfl,q1,q2⟩)
 | ok u m =>
  obtain⟨q,rfl,q1,q2,q3⟩:=hA;exact hQ q u m w' ⟨q1,q3,hh.cw,⟨q3,hh.cw,World.ownsRow_nil _ _ _ _,trivial,⟨nA.kept (fun _ _=>rfl) (fun b hb=>⟨hb.1,hb.2,by simp [Value.ownBlock]⟩) q u q2,trivial⟩,.inr (by simp [Value.ownBlock])⟩,Rw.later,hh.eq,hh.ne⟩
theorem TB {fn:FuncId}{args:Array Value}{r:R Tr}{K:Tr→Nat→R Tr} (h:Hid (Sx E c n g w0 (Nd E c w1 p k wd f t kv ps0 ts0 ps ts) T (r.andThen K) w)) (hC:r≠.out→Calls Tryz.prog fn args w (Ans E c g r w))
  (hB:∀ k w',Ans E c g T w0 (Up k) w'→Q (Up k) w')
  (hQ:∀ q u n' w',Hid (Sx E c n' g w0 (Nd E c w1 p k wd f t kv ps0 ts0 (ps++[q]) (ts++[u])) T (K u n') w')→Q (.returned (.pointer (some ⟨q,0,none⟩))) w'):Calls Tryz.prog fn args w Q :=
 IX h hC (fun _ _ _ d e b=>d.kid e b) (fun _ _=>Nd.later) hB hQ
theorem lL {fn:FuncId}{args:Array Value}{r:R Tr}{K:Tr→Nat→R Tr} (h:Hid (Sx E c n g w0 (Rw E c w1 v ps ts rs us) T (r.andThen K) w)) (hC:r≠.out→Calls Tryz.prog fn args w (Ans E c g r w))
  (hB:∀ k w',Ans E c g T w0 (Up k) w'→Q (Up k) w')
  (hQ:∀ q u n' w',Hid (Sx E c n' g w0 (Rw E c w1 v ps ts (rs++[q]) (us++[u])) T (K u n') w')→Q (.returned (.pointer (some ⟨q,0,none⟩))) w'):Calls Tryz.prog fn args w Q :=
 IX h hC (fun _ _ _ d e b=>d.kid e b) (fun _ _=>Rw.later) hB hQ
theorem jA {K:Tr→Nat→R Tr}{F:F} (h:Hid (Sx E c n g w0 (Nd E c w1 p k wd f t kv ps0 ts0 ps ts) T ((S.t F n g).andThen K) w)) (hD:Hid (aB E S)) (hf:xD F≠0) (hs:NF F=false∧okF F=true)
  (hB:∀ k w',Ans E c g T w0 (Up k) w'→Q (Up k) w')
  (hQ:∀ q u n' w',Hid (Sx E c n' g w0 (Nd E c w1 p k wd f t kv ps0 ts0 (ps++[q]) (ts++[u])) T (K u n') w')→Q (.returned (.pointer (some ⟨q,0,none⟩))) w') :
  Calls Tryz.prog (xD F) #[.pointer (some ⟨c,0,none⟩)] w Q :=
 TB h (hD.out.t F c n g w hf (DA hs.1 h.out.rd.at_ hs.2) h.out.rd) hB hQ
theorem qI {K:Tr→Nat→R Tr}{F:F} (h:Hid (Sx E c n g w0 (Nd E c w1 p k wd f t kv ps0 ts0 ps ts) T ((S.t F n g).andThen K) w)) (hD:Hid (aB E S)) (hf:xD F≠0) (hs:okF F=true) (hlt:Hid (n < E.l.length))
  (hB:∀ k w',Ans E c g T w0 (Up k) w'→Q (Up k) w')
  (hQ:∀ q u n' w',Hid (Sx E c n' g w0 (Nd E c w1 p k wd f t kv ps0 ts0 (ps++[q]) (ts++[u])) T (K u n') w')→Q (.returned (.pointer (some ⟨q,0,none⟩))) w') :
  Calls Tryz.prog (xD F) #[.pointer (some ⟨c,0,none⟩)] w Q :=
 TB h (hD.out.t F c n g w hf (SF hlt.out hs) h.out.rd) hB hQ
theorem lG {K:Tr→Nat→R Tr} (h:Hid (Sx E c n g w0 (Nd E c w1 p k wd f t kv ps0 ts0 ps ts) T ((LC E.toEnv n).andThen K) w)) (hB:∀ k w',Ans E c g T w0 (Up k) w'→Q (Up k) w')
  (hQ:∀ q u n' w',Hid (Sx E c n' g w0 (Nd E c w1 p k wd f t kv ps0 ts0 (ps++[q]) (ts++[u])) T (K u n') w')→Q (.returned (.pointer (some ⟨q,0,none⟩))) w') :
  Calls Tryz.prog 108 #[.pointer (some ⟨c,0,none⟩)] w Q :=
 TB h (fun _=>yJ h.out.rd) hB hQ
theorem kW {K:Tr→Nat→R Tr} (h:Hid (Sx E c n g w0 (Nd E c w1 p k wd f t kv ps0 ts0 ps ts) T ((TH E.toEnv n).andThen K) w)) (hB:∀ k w',Ans E c g T w0 (Up k) w'→Q (Up k) w')
  (hQ:∀ q u n' w',Hid (Sx E c n' g w0 (Nd E c w1 p k wd f t kv ps0 ts0 (ps++[q]) (ts++[u])) T (K u n') w')→Q (.returned (.pointer (some ⟨q,0,none⟩))) w') :
  Calls Tryz.prog 191 #[.pointer (some ⟨c,0,none⟩)] w Q :=
 TB h (fun _=>FN h.out.rd) hB hQ
theorem IA (h:Hid (Sx E c n g w0 (Nd E c w1 p k wd f t kv ps0 ts0 ps ts) T X w)) (k2:UInt8)
  (hQ:∀ q w',Hid (Sx E c n g w0 (Nd E c w1 p k wd f t kv ps0 ts0 (ps++[q]) (ts++[vA k2 n])) T X w')→Q (.returned (.pointer (some ⟨q,0,none⟩))) w') :
  Calls Tryz.prog 153 #[.pointer (some ⟨c,0,none⟩),.int .u8 (k2.toNat:Int)] w Q:=by
 refine (wJ h.out.rd k2).mono ?_;rintro e w' ⟨q,rfl,a1,a2,a3,a4⟩;exact hQ q w' ((h.out.below a4).with (h.out.ex.kid (lA c a4) (EG a2 a1 a2.lt)) Nd.later)
theorem pB {q:Nat}{u:Tr} (h:Hid (Sx E c n g w0 (Nd E c w1 p k wd f t kv ps0 ts0 (ps++[q]) (ts++[u])) T X w)):Hid (Sx E c n g w0 (Nd E c w1 p k wd f t kv ps0 ts0 ps ts) T X w):=h.out.with h.out.ex.drop Nd.later
theorem iF {K:Tr→Nat→R Tr}{F:F} (h:Hid (Sx E c n g w0 (Rw E c w1 v ps ts rs us) T ((S.t F n g).andThen K) w)) (hD:Hid (aB E S)) (hf:xD F≠0) (hs:NF F=false∧okF F=true)
  (hB:∀ k w',Ans E c g T w0 (Up k) w'→Q (Up k) w')
  (hQ:∀ q u n' w',Hid (Sx E c n' g w0 (Rw E c w1 v ps ts (rs++[q]) (us++[u])) T (K u n') w')→Q (.returned (.pointer (some ⟨q,0,none⟩))) w') :
  Calls Tryz.prog (xD F) #[.pointer (some ⟨c,0,none⟩)] w Q :=
 lL h (hD.out.t F c n g w hf (DA hs.1 h.out.rd.at_ hs.2) h.out.rd) hB hQ
theorem iH {K:Tr→Nat→R Tr}{F:F} (h:Hid (Sx E c n g w0 (Rw E c w1 v ps ts rs us) T ((S.t F n g).andThen K) w)) (hD:Hid (aB E S)) (hf:xD F≠0) (hs:okF F=true) (hlt:Hid (n < E.l.length))
  (hB:∀ k w',Ans E c g T w0 (Up k) w'→Q (Up k) w')
  (hQ:∀ q u n' w',Hid (Sx E c n' g w0 (Rw E c w1 v ps ts (rs++[q]) (us++[u])) T (K u n') w')→Q (.returned (.pointer (some ⟨q,0,none⟩))) w') :
  Calls Tryz.prog (xD F) #[.pointer (some ⟨c,0,none⟩)] w Q :=
 lL h (hD.out.t F c n g w hf (SF hlt.out hs) h.out.rd) hB hQ
theorem RK {K:Tr→Nat→R Tr} (h:Hid (Sx E c n g w0 (Rw E c w1 v ps ts rs us) T ((LC E.toEnv n).andThen K) w)) (hB:∀ k w',Ans E c g T w0 (Up k) w'→Q (Up k) w')
  (hQ:∀ q u n' w',Hid (Sx E c n' g w0 (Rw E c w1 v ps ts (rs++[q]) (us++[u])) T (K u n') w')→Q (.returned (.pointer (some ⟨q,0,none⟩))) w') :
  Calls Tryz.prog 108 #[.pointer (some ⟨c,0,none⟩)] w Q :=
 lL h (fun _=>yJ h.out.rd) hB hQ
theorem XY {K:Tr→Nat→R Tr} (h:Hid (Sx E c n g w0 (Rw E c w1 v ps ts rs us) T ((TH E.toEnv n).andThen K) w)) (hB:∀ k w',Ans E c g T w0 (Up k) w'→Q (Up k) w')
  (hQ:∀ q u n' w',Hid (Sx E c n' g w0 (Rw E c w1 v ps ts (rs++[q]) (us++[u])) T (K u n') w')→Q (.returned (.pointer (some ⟨q,0,none⟩))) w') :
  Calls Tryz.prog 191 #[.pointer (some ⟨c,0,none⟩)] w Q :=
 lL h (fun _=>FN h.out.rd) hB hQ
theorem sS (h:Hid (Sx E c n g w0 (Rw E c w1 v ps ts rs us) T X w)) (k2:UInt8)
  (hQ:∀ q w',Hid (Sx E c n g w0 (Rw E c w1 v ps ts (rs++[q]) (us++[vA k2 n])) T X w')→Q (.returned (.pointer (some ⟨q,0,none⟩))) w') :
  Calls Tryz.prog 153 #[.pointer (some ⟨c,0,none⟩),.int .u8 (k2.toNat:Int)] w Q:=by
 refine (wJ h.out.rd k2).mono ?_;rintro e w' ⟨q,rfl,a1,a2,a3,a4⟩;exact hQ q w' ((h.out.below a4).with (h.out.ex.kid (lA c a4) (EG a2 a1 a2.lt)) Rw.later)
theorem BX {q:Nat}{u:Tr} (h:Hid (Sx E c n g w0 (Rw E c w1 v ps ts (rs++[q]) (us++[u])) T X w)):Hid (Sx E c n g w0 (Rw E c w1 v ps ts rs us) T X w):=h.out.with h.out.ex.drop Rw.later
theorem Sx.own {k':UInt8}{wd':Int}{f' t':Nat}{w':World} (h:Sx E c n g w0 (Nd E c w1 p k wd f t kv ps0 ts0 ps ts) T X w) (h01:w0.heap.size≤w1.heap.size) (hf:Fr [p] w w') (ho:YC w' p k' wd' f' t' kv) :
  Sx E c n g w0 (Nd E c w1 p k' wd' f' t' kv ps0 ts0 ps ts) T X w':=by
 have h1:=h.ex.cw;have h2:=h.ex.opn.low;exact⟨h.rd.later hf (fun x hx=>by simp at hx;omega) (h.ex.z.imp id (fun h m=>h.1 (by simpa using m))),h.fr.trans' hf (fun i hi=>.inr (by simp at hi;omega)),h.cw,h.ex.own hf ho,Nd.later,h.eq,h.ne⟩
theorem ZA {P:World→Prop} (h:Hid (Sx E c n g w0 P T X w)) (hlt:Hid (n < E.l.length)):Hid (Sx E c (n+1) g w0 P T X (w.setCell ⟨c,3,none⟩ (.int .i64 ((n:Int)+1)))) :=
 h.out.step (NA c 3 w _) (by simpa using h.out.rd.moved (n+1) (by have:=hlt.out;omega)) rfl
theorem oD (h:Hid (Sx E c n g w0 (Nd E c w1 p k wd f t kv ps0 ts0 ps ts) T X w)) (wd':Int) (h01:w0.heap.size≤w1.heap.size:=by exact Nat.le_refl _):Hid (Sx E c n g w0 (Nd E c w1 p k wd' f t kv ps0 ts0 ps ts) T X (w.setCell ⟨p,1,none⟩ (.int .i64 wd'))) :=
 h.out.own h01 (NA p 1 w _) (h.out.ex.opn.blk.named_ wd')
theorem dB (h:Hid (Sx E c n g w0 (Nd E c w1 p k wd f t kv ps0 ts0 ps ts) T X w)) (k':UInt8) (h01:w0.heap.size≤w1.heap.size:=by exact Nat.le_refl _):Hid (Sx E c n g w0 (Nd E c w1 p k' wd f t kv ps0 ts0 ps ts) T X (w.setCell ⟨p,0,none⟩ (.int .u8 (k'.toNat:Int)))) :=
 h.out.own h01 (NA p 0 w _) (h.out.ex.opn.blk.kinded k')
theorem PH {w':World}{kv':Value} (hn:Nd E c w1 p k wd f t kv ps0 ts0 ps ts w) (hO:Opn w' w1.heap.size p k wd f n (ps0++ps) kv') (hF:Fr (p::YD kv) w w') (hR:Rd E c n g w') :
  Ans E c g (.ok (.mk k wd f n (ts0++ts)) n) w1 (.returned (.pointer (some ⟨p,0,none⟩))) w':=by
 have hk:∀ b,ndD w1 p kv w b→w'.heap[b]?=w.heap[b]?:=fun b hb=>hF.block b hb.2.1 (fun m=>by
  rcases List.mem_cons.1 m with e|e
  ·exact hb.2.2.1 e
  ·unfold YD at e;split at e
   ·rename_i b2 hb2;simp at e;subst e;exact hb.2.2.2 hb2
   ·simp at e)
 have hX:∀ i∈p::YD kv,i∈[c]∨w1.heap.size≤i:=fun i m=>by
  rcases List.mem_cons.1 m with e|e
  ·right;rw [e];exact hn.opn.low
  ·unfold YD at e;split at e
   ·rename_i b2 hb2;simp at e;subst e;right;exact (hn.opn.row.lt _ hb2).1
   ·simp at e
 have hD:∀ b,ndD w1 p kv w b→within w1.heap.size w'.heap.size b:=fun b hb=>⟨hb.1,Nat.lt_of_lt_of_le hb.2.1 hF.size⟩
 exact⟨p,rfl,hR,hO.tree (fA.append (fA.kept hk hD _ _ hn.old) (fA.kept hk hD _ _ hn.kids)),hn.fr.trans' hF hX⟩
theorem fE.mk (h:Ans E c g T w0 (.returned (.pointer (some ⟨p,0,none⟩))) w):fE E c g T w0 p (.returned (.pointer (some ⟨p,0,none⟩))) w:=⟨fun q e=>by simpa using e.symm,h⟩
theorem AJ (h:Rd E c n g w) (hn:Nd E c w1 p k wd f t kv ps0 ts0 ps ts w) (hsm:ps0.length+ps.length≤1000000) :
  Calls Tryz.prog 113 #[.pointer (some ⟨c,0,none⟩),.pointer (some ⟨p,0,none⟩),.slice (some ⟨w.heap.size,0,none⟩) ps.length ps.length] (w.alloc (.cells (GB ps).toArray 51))
   fun e w'=>e=.returned (.pointer (some ⟨p,0,none⟩))∧Ans E c g (.ok (.mk k wd f n (ts0++ts)) n) w1 e w':=by
 have hB:=(Below.refl w.heap.size w).alloc (Nat.le_refl _) (Obj.cells (GB ps).toArray 51);have h1:=Nd.later w _ hn (lA c hB);have hcl:=rN (h.below hB) h1.opn h1.cw h1.z w.heap.size 0 ps ps.length (fun j q hj=>by
  rw [Nat.zero_add];have hx:=heap_alloc_new w (Obj.cells (GB ps).toArray 51);unfold World.cell?;rw [hx];simp only [Option.isSome_none,Bool.false_eq_true,if_false,List.getElem?_toArray];simp [GB,hj]) (by omega)
 refine hcl.mono ?_;rintro e w' ⟨rfl,⟨kv',hO⟩,hR,hF⟩;exact⟨rfl,PH h1 hO hF hR⟩
theorem NM (h:Rd E c n g w) (hn:Nd E c w1 p k wd f t kv ps0 ts0 [] [] w) :
  Calls Tryz.prog 113 #[.pointer (some ⟨c,0,none⟩),.pointer (some ⟨p,0,none⟩),OE] w
   fun e w'=>e=.returned (.pointer (some ⟨p,0,none⟩))∧Ans E c g (.ok (.mk k wd f n ts0) n) w1 e w':=by
 refine (yL h hn.opn hn.cw hn.z).mono ?_;rintro e w' ⟨rfl,⟨kv',hO⟩,hR,hF⟩;have:=PH hn (by rw [List.append_nil];exact hO) hF hR;rw [List.append_nil] at this;exact⟨rfl,this⟩
theorem eV.of_own {lo:Nat} (h:w.ownsRow lo 51 1 v ps.length (GB ps)):(v=OE∧ps=[])∨∃ b cap,v=.slice (some ⟨b,0,none⟩) ps.length cap∧∀ (j p:Nat),ps[j]?=some p→w.cell? ⟨b,0+j,none⟩=some (.pointer (some ⟨p,0,none⟩)):=by
 rcases h.2 with ⟨h1,h2⟩|⟨b,cap,cur,hv,h1,h2,h3⟩
 ·exact .inl ⟨h1,List.eq_nil_of_length_eq_zero h2⟩
 ·refine .inr ⟨b,cap,hv,fun j p hj=>?_⟩;subst hv;have hjl:j < ps.length:=by
   rcases Nat.lt_or_ge j ps.length with h|h
   ·exact h
   ·rw [List.getElem?_eq_none h] at hj;cases hj
  rw [Nat.zero_add,World.ownsRow.cellAt h j (by omega)];simp [GB,hj]
theorem Nd.join {w2:World} (hn:Nd E c w1 p k wd f t kv ps0 ts0 ps ts w2) {D:Nat→Prop} (hf:Fr [c] w2 w) (hk:fA w D rs us) (hd:∀ b,D b→w2.heap.size≤b∧b < w.heap.size):Nd E c w1 p k wd f t kv ps0 ts0 (ps++rs) (ts++us) w:=by
 have h':=Nd.later w2 w hn hf;exact⟨h'.fr,h'.cw,h'.opn,h'.old,fA.append h'.kids (fA.kept (fun _ _=>rfl) (fun b hb=>hn.apart (Nat.le_refl _) b (hd b hb)) _ _ hk),h'.z⟩
theorem QS {w2:World} (h:Rd E c n g w) (hn:Nd E c w1 p k wd f t kv ps0 ts0 [] [] w2) (hr:Rw E c w2 v rs us [] [] w) (hsm:ps0.length+rs.length≤1099511627776) :
  Calls Tryz.prog 113 #[.pointer (some ⟨c,0,none⟩),.pointer (some ⟨p,0,none⟩),v] w
   fun e w'=>e=.returned (.pointer (some ⟨p,0,none⟩))∧Ans E c g (.ok (.mk k wd f n (ts0++us)) n) w1 e w':=by
 have hj:=hn.join hr.fr hr.old (fun b hb=>⟨hb.1,hb.2.1⟩);rw [List.nil_append,List.nil_append] at hj;rcases eV.of_own hr.own with ⟨rfl,h0⟩|⟨b,cap,rfl,hc⟩
 ·subst h0;have hu:=fA.len hr.old;have hu0:us=[]:=List.eq_nil_of_length_eq_zero (by simpa using hu.symm);subst hu0;rw [List.append_nil];exact NM h hj
 ·refine (rN h hj.opn hj.cw hj.z b 0 rs cap hc hsm).mono ?_;rintro e w' ⟨rfl,⟨kv',hO⟩,hR,hF⟩;exact⟨rfl,PH hj hO hF hR⟩
theorem eA (h:Hid (Sx E c n g w0 (Nd E c w0 p k wd f t kv ps0 ts0 ps ts) T (.ok (.mk k wd f n (ts0++ts)) n) w)) (hsm:ps0.length+ps.length≤1000000) :
  Calls Tryz.prog 113 #[.pointer (some ⟨c,0,none⟩),.pointer (some ⟨p,0,none⟩),.slice (some ⟨w.heap.size,0,none⟩) ps.length ps.length] (w.alloc (.cells (GB ps).toArray 51))
   fun e w'=>e=.returned (.pointer (some ⟨p,0,none⟩))∧Hid (Ans E c g T w0 (.returned (.pointer (some ⟨p,0,none⟩))) w'):=by
 refine (AJ h.out.rd h.out.ex hsm).mono ?_;rintro e w' ⟨rfl,hA⟩;rw [← h.out.eq] at hA;exact⟨rfl,hA⟩
theorem aP (h:Hid (Sx E c n g w0 (Nd E c w0 p k wd f t kv ps0 ts0 [] []) T (.ok (.mk k wd f n ts0) n) w)) :
  Calls Tryz.prog 113 #[.pointer (some ⟨c,0,none⟩),.pointer (some ⟨p,0,none⟩),OE] w
   fun e w'=>e=.returned (.pointer (some ⟨p,0,none⟩))∧Hid (Ans E c g T w0 (.returned (.pointer (some ⟨p,0,none⟩))) w'):=by
 refine (NM h.out.rd h.out.ex).mono ?_;rintro e w' ⟨rfl,hA⟩;rw [← h.out.eq] at hA;exact⟨rfl,hA⟩
theorem NG {w2:World}{n2:Nat}{X2:R Tr} (h2:Hid (Sx E c n2 g w0 (Nd E c w0 p k wd f t kv ps0 ts0 [] []) T X2 w2)) (h:Hid (Sx E c n g w0 (Rw E c w2 v rs us [] []) T (.ok (.mk k wd f n (ts0++us)) n) w)) (hsm:ps0.length+rs.length≤1099511627776) :
  Calls Tryz.prog 113 #[.pointer (some ⟨c,0,none⟩),.pointer (some ⟨p,0,none⟩),v] w
   fun e w'=>e=.returned (.pointer (some ⟨p,0,none⟩))∧Hid (Ans E c g T w0 (.returned (.pointer (some ⟨p,0,none⟩))) w'):=by
 refine (QS h.out.rd h2.out.ex h.out.ex hsm).mono ?_;rintro e w' ⟨rfl,hA⟩;rw [← h.out.eq] at hA;exact⟨rfl,hA⟩
theorem mU {w2:World}{n2:Nat}{X2:R Tr}{p2:Nat}{k2:UInt8}{wd2:Int}{f2 t2:Nat}{kv2:Value}{ps2:List Nat}{ts2:List Tr}{rs2:List Nat}{us2:List Tr}
  (h2:Hid (Sx E c n2 g w0 (Nd E c w1 p k wd f t kv ps0 ts0 ps ts) T X2 w2)) (h:Hid (Sx E c n g w0 (Nd E c w2 p2 k2 wd2 f2 t2 kv2 ps2 ts2 rs2 us2) T X w)) (hsm:ps2.length+rs2.length≤1000000) :
  Calls Tryz.prog 113 #[.pointer (some ⟨c,0,none⟩),.pointer (some ⟨p2,0,none⟩),.slice (some ⟨w.heap.size,0,none⟩) rs2.length rs2.length] (w.alloc (.cells (GB rs2).toArray 51))
   fun e w'=>e=.returned (.pointer (some ⟨p2,0,none⟩))∧Hid (Sx E c n g w0 (Nd E c w1 p k wd f t kv ps0 ts0 (ps++[p2]) (ts++[.mk k2 wd2 f2 n (ts2++us2)])) T X w'):=by
 refine (AJ h.out.rd h.out.ex hsm).mono ?_;rintro e w' ⟨rfl,q,hq,q1,q2,q3⟩;cases hq;have hh:=h.out;exact⟨rfl,q1,h2.out.fr.trans q3,hh.cw,h2.out.ex.kid q3 q2,Nd.later,hh.eq,hh.ne⟩
theorem NL {w2:World}{n2:Nat}{X2:R Tr}{p2:Nat}{k2:UInt8}{wd2:Int}{f2 t2:Nat}{kv2:Value}{ps2:List Nat}{ts2:List Tr}{rs2:List Nat}{us2:List Tr}
  (h2:Hid (Sx E c n2 g w0 (Rw E c w1 v ps ts rs us) T X2 w2)) (h:Hid (Sx E c n g w0 (Nd E c w2 p2 k2 wd2 f2 t2 kv2 ps2 ts2 rs2 us2) T X w)) (hsm:ps2.length+rs2.length≤1000000) :
  Calls Tryz.prog 113 #[.pointer (some ⟨c,0,none⟩),.pointer (some ⟨p2,0,none⟩),.slice (some ⟨w.heap.size,0,none⟩) rs2.length rs2.length] (w.alloc (.cells (GB rs2).toArray 51))
   fun e w'=>e=.returned (.pointer (some ⟨p2,0,none⟩))∧Hid (Sx E c n g w0 (Rw E c w1 v ps ts (rs++[p2]) (us++[.mk k2 wd2 f2 n (ts2++us2)])) T X w'):=by
 refine (AJ h.out.rd h.out.ex hsm).mono ?_;rintro e w' ⟨rfl,q,hq,q1,q2,q3⟩;cases hq;have hh:=h.out;exact⟨rfl,q1,h2.out.fr.trans q3,hh.cw,h2.out.ex.kid q3 q2,Rw.later,hh.eq,hh.ne⟩
theorem gX {P:World→Prop} (h:Hid (Sx E c n g w0 P T X w)):Hid (Sx E c n g w0 (Rw E c w OE [] [] [] []) T X w):=h.out.with (Rw.start (Fr.refl _ _) h.out.rd.lt) Rw.later
theorem iK {P:World→Prop} (h:Hid (Sx E c n g w0 P T X w)):Hid (Sx E c n g w0 (Rw E c w0 OE [] [] [] []) T X w):=h.out.with (Rw.start h.out.fr h.out.cw) Rw.later
theorem pL (h:Hid (Sx E c n g w0 (Rw E c w1 OE [] [] rs us) T X w)) (hsm:rs.length≤1000000):Hid (Sx E c n g w0 (Rw E c w1 (.slice (some ⟨w.heap.size,0,none⟩) rs.length rs.length) rs us [] []) T X (w.alloc (.cells (GB rs).toArray 51))) :=
 (h.out.below ((Below.refl w.heap.size w).alloc (Nat.le_refl _) _)).with (h.out.ex.lit (by unfold maxLen;omega) h.out.rd.zlt) Rw.later
theorem PN {w2:World}{n2:Nat}{X2:R Tr} (h2:Hid (Sx E c n2 g w0 (Nd E c w1 p k wd f t kv ps0 ts0 ps ts) T X2 w2)) {ps':List Nat}{ts':List Tr} (h:Hid (Sx E c n g w0 (Rw E c w2 v ps' ts' rs us) T X w)) :
  Hid (Sx E c n g w0 (Nd E c w1 p k wd f t kv ps0 ts0 (ps++rs) (ts++us)) T X w) :=
 h.out.with (h2.out.ex.join h.out.ex.fr h.out.ex.kids (fun b hb=>⟨hb.1,hb.2.1⟩)) Nd.later
theorem XN (h:Rd E c n g w) (k2:UInt8) (hr:Rw E c w1 v ps ts rs us w) (hsm:ps.length≤1099511627776) :
  Calls Tryz.prog 111 #[.pointer (some ⟨c,0,none⟩),.int .u8 (k2.toNat:Int),v] w (MQ E c n g w1.heap.size (xC k2 ts n) w):=by
 obtain⟨ka,cap,rfl,hP,hN⟩:=hr.row;exact iW h k2 hP hN (Nat.le_refl _) hr.fr.size hsm
theorem VJ {w2:World}{n2:Nat}{X2:R Tr} (h2:Hid (Sx E c n2 g w0 (Nd E c w1 p k wd f t kv ps0 ts0 ps ts) T X2 w2)) {k2:UInt8}{rs0:List Nat}{us0:List Tr} (h:Hid (Sx E c n g w0 (Rw E c w2 v rs us rs0 us0) T X w)) (hsm:rs.length≤1099511627776)
  (hQ:∀ q w',Hid (Sx E c n g w0 (Nd E c w1 p k wd f t kv ps0 ts0 (ps++[q]) (ts++[xC k2 us n])) T X w')→Q (.returned (.pointer (some ⟨q,0,none⟩))) w') :
  Calls Tryz.prog 111 #[.pointer (some ⟨c,0,none⟩),.int .u8 (k2.toNat:Int),v] w Q:=by
 refine (XN h.out.rd k2 h.out.ex hsm).mono ?_;rintro e w' ⟨q,rfl,q1,q2,q3⟩;have hh:=h.out;have hf:=hh.ex.fr.trans (lA c q3);exact hQ q w' ⟨q1,hh.fr.trans (lA c q3),hh.cw,h2.out.ex.kid hf q2,Nd.later,hh.eq,hh.ne⟩
theorem LE {k2:UInt8} (h:Hid (Sx E c n g w0 (Rw E c w1 v ps ts rs us) T X w)) (hsm:ps.length≤1099511627776)
  (hQ:∀ q w',Hid (Sx E c n g w0 (Rw E c w1 OE [] [] [q] [xC k2 ts n]) T X w')→Q (.returned (.pointer (some ⟨q,0,none⟩))) w') :
  Calls Tryz.prog 111 #[.pointer (some ⟨c,0,none⟩),.int .u8 (k2.toNat:Int),v] w Q:=by
 refine (XN h.out.rd k2 h.out.ex hsm).mono ?_;rintro e w' ⟨q,rfl,q1,q2,q3⟩;have hh:=h.out;have hf:=hh.ex.fr.trans (lA c q3);exact hQ q w' ⟨q1,hh.fr.trans (lA c q3),hh.cw,(Rw.start (Fr.refl _ _) hh.ex.cw).kid hf q2,Rw.later,hh.eq,hh.ne⟩
theorem RE {q:Nat}{u:Tr} (h:Hid (Sx E c n g w0 (Rw E c w1 v ps ts (rs++[q]) (us++[u])) T (.ok u n) w)) (h01:w0.heap.size≤w1.heap.size:=by exact Nat.le_refl _):Ans E c g T w0 (.returned (.pointer (some ⟨q,0,none⟩))) w:=by
 rw [h.out.eq];exact⟨q,rfl,h.out.rd,nA.kept (fun _ _=>rfl) (fun b hb=>⟨by have:=hb.1;omega,hb.2.1⟩) q u h.out.ex.kids.getLast,h.out.fr⟩
theorem IV {q:Nat}{u:Tr} (h:Hid (Sx E c n g w0 (Nd E c w1 p k wd f t kv ps0 ts0 (ps++[q]) (ts++[u])) T (.ok u n) w)) (h01:w0.heap.size≤w1.heap.size:=by exact Nat.le_refl _):Ans E c g T w0 (.returned (.pointer (some ⟨q,0,none⟩))) w:=by
 rw [h.out.eq];exact⟨q,rfl,h.out.rd,nA.kept (fun _ _=>rfl) (fun b hb=>⟨by have:=hb.1;omega,hb.2.1⟩) q u h.out.ex.kids.getLast,h.out.fr⟩
theorem gG {ps':List Nat}{ts':List Tr} (h:Hid (Sx E c n g w0 (Nd E c w1 p k wd f t kv ps0 ts0 ps ts) T X w)) (hs:∀ D,fA w D ps ts→fA w D ps' ts'):Hid (Sx E c n g w0 (Nd E c w1 p k wd f t kv ps0 ts0 ps' ts') T X w):=by
 obtain⟨a,b,d,e,f,z⟩:=h.out.ex;exact h.out.with ⟨a,b,d,e,hs _ f,z⟩ Nd.later
theorem ZY {ps':List Nat}{ts':List Tr} (h:Hid (Sx E c n g w0 (Rw E c w1 v ps ts rs us) T X w)) (hs:∀ D,fA w D rs us→fA w D ps' ts'):Hid (Sx E c n g w0 (Rw E c w1 v ps ts ps' ts') T X w):=by
 obtain⟨a,b,d,e,f,z⟩:=h.out.ex;exact h.out.with ⟨a,b,d,e,hs _ f,z⟩ Rw.later
theorem iC {ops:Array Oper}{rest:List Oper}{o:Oper}{a:Act}{Q:Exit→Act→World→Prop} (hgd:o.guard=none) (s x:Operand)
  (ho:o.op=.call { callee:=.builtin .append,args:=#[s,x],argTypes:=#[59,59] }) {q:Nat}{u:Tr}
  (h:Hid (Sx E c n g w0 (Rw E c w1 v ps ts [q] [u]) T X w)) (h01:w0.heap.size≤w1.heap.size) (hs:a.eval s=v) (hx:a.eval x=.slice (some ⟨w.heap.size,0,none⟩) 1 1) (hsm:ps.length≤1099511627776)
  (hQ:∀ v' w',Hid (Sx E c n g w0 (Rw E c w1 v' (ps++[q]) (ts++[u]) [] []) T X w')→wpList Tryz.prog ops Q rest (a.put o.dst v') w') :
  wpList Tryz.prog ops Q (o::rest) a (w.alloc (.cells #[.pointer (some ⟨q,0,none⟩)] 51)):=by
 obtain⟨iP,hiP,hz0,hz1,hz2⟩:=info_parts Tryz.infoP;have hh:=h.out;have hz:=hh.ex.fr.size;have hB:=(Below.refl w.heap.size w).alloc (Nat.le_refl _) (Obj.cells #[.pointer (some ⟨q,0,none⟩)] 51);have ha5:(w.alloc (Obj.cells #[.pointer (some ⟨q,0,none⟩)] 51)).heap.size=w.heap.size+1:=by simp
 refine wpList_append_own_at _ hgd s x 59 ho w1.heap.size 51 iP _ 1 8 Tryz.underlying59 hiP hz0 hz1 hz2 rfl (by decide) v ps.length (GB ps) hs (hh.ex.own.alloc _) ⟨w.heap.size,0,none⟩ 1 1 (GB [q]) hx rfl
  (World.news_of_block (cs:=#[.pointer (some ⟨q,0,none⟩)]) (t:=51) (fr:=(0,0)) (heap_alloc_new w _)) (zG _) (by unfold maxLen;omega) (by omega) (by omega) ?_
 intro v' w' hown hgrow _ hat;have hg5:=hgrow.size;have hX:Fr (YD v) (w.alloc (Obj.cells #[.pointer (some ⟨q,0,none⟩)] 51)) w':=Fr.grown hgrow (fun k hk=>by simp [YD,hk]);have hXm:∀ i∈YD v,w1.heap.size≤i:=by
  intro i hi;unfold YD at hi;split at hi
  ·rename_i b2 hb2;simp at hi;subst hi;exact (hh.ex.own.lt _ hb2).1
  ·simp at hi
 have hcw:=hh.ex.cw;have hF1:=(hh.ex.fr.trans (lA c hB)).trans' hX (fun i hi=>.inr (hXm i hi));have hF0:=(hh.fr.trans (lA c hB)).trans' hX (fun i hi=>.inr (by have:=hXm i hi;omega));refine hQ v' w' ⟨(hh.rd.below hB).later hX (fun i hi=>by have:=hXm i hi;omega) (hh.ex.z.imp id (fun h m=>by
  unfold YD at m;split at m
  ·rename_i b2 hb2;simp at m;exact h (m ▸ hb2)
  ·simp at m)),hF0,hh.cw,?_,Rw.later,hh.eq,hh.ne⟩
 refine hh.ex.more hF1 hown (fun b hb hne=>by rw [hgrow.block b (by omega) (fun e=>hne e.symm)];exact hB.block b hb) (by omega) (hat.imp id (fun e=>⟨_,e,by omega⟩)) hh.rd.zlt
theorem pG {P:World→Prop}{fn:FuncId}{args:Array Value} (h:Hid (Sx E c n g w0 P T X w)) (hC:X≠.out→Calls Tryz.prog fn args w (Ans E c g X w)) (hB:∀ k w',Ans E c g T w0 (Up k) w'→Q (Up k) w')
  (hQ:∀ q w',Hid (Ans E c g T w0 (.returned (.pointer (some ⟨q,0,none⟩))) w')→Q (.returned (.pointer (some ⟨q,0,none⟩))) w'):Calls Tryz.prog fn args w Q:=by
 refine (hC (fun e=>h.out.ne (by rw [h.out.eq,e]))).mono ?_;intro e w' hA;have hA2:=hA.behind h.out.fr;rw [← h.out.eq] at hA2;rcases hA2.shape with ⟨q,rfl⟩|⟨k2,rfl⟩
 ·exact hQ q w' hA2
 ·exact hB k2 w' hA2
theorem cE {P:World→Prop}{fn:FuncId}{args:Array Value} (h:Hid (Sx E c n g w0 P T X w)) (hC:X≠.out→Calls Tryz.prog fn args w (Ans E c g X w0)) (hB:∀ k w',Ans E c g T w0 (Up k) w'→Q (Up k) w')
  (hQ:∀ q w',Hid (Ans E c g T w0 (.returned (.pointer (some ⟨q,0,none⟩))) w')→Q (.returned (.pointer (some ⟨q,0,none⟩))) w'):Calls Tryz.prog fn args w Q:=by
 refine (hC (fun e=>h.out.ne (by rw [h.out.eq,e]))).mono ?_;intro e w' hA2;rw [← h.out.eq] at hA2;rcases hA2.shape with ⟨q,rfl⟩|⟨k2,rfl⟩
 ·exact hQ q w' hA2
 ·exact hB k2 w' hA2
theorem aE {P:World→Prop}{F:F} (h:Hid (Sx E c n g w0 P T (S.t F n g) w)) (hD:Hid (aB E S)) (hf:xD F≠0) (hs:NF F=false∧okF F=true) (hB:∀ k w',Ans E c g T w0 (Up k) w'→Q (Up k) w')
  (hQ:∀ q w',Hid (Ans E c g T w0 (.returned (.pointer (some ⟨q,0,none⟩))) w')→Q (.returned (.pointer (some ⟨q,0,none⟩))) w'):Calls Tryz.prog (xD F) #[.pointer (some ⟨c,0,none⟩)] w Q :=
 pG h (hD.out.t F c n g w hf (DA hs.1 h.out.rd.at_ hs.2) h.out.rd) hB hQ
theorem pC {P:World→Prop}{F:F} (h:Hid (Sx E c n g w0 P T (S.t F n g) w)) (hD:Hid (aB E S)) (hf:xD F≠0) (hs:okF F=true) (hlt:Hid (n < E.l.length)) (hB:∀ k w',Ans E c g T w0 (Up k) w'→Q (Up k) w')
  (hQ:∀ q w',Hid (Ans E c g T w0 (.returned (.pointer (some ⟨q,0,none⟩))) w')→Q (.returned (.pointer (some ⟨q,0,none⟩))) w'):Calls Tryz.prog (xD F) #[.pointer (some ⟨c,0,none⟩)] w Q :=
 pG h (hD.out.t F c n g w hf (SF hlt.out hs) h.out.rd) hB hQ
theorem jL {P:World→Prop}{k2:UInt8} (h:Hid (Sx E c n g w0 P T (.ok (vA k2 n) n) w))
  (hQ:∀ q w',Hid (Ans E c g T w0 (.returned (.pointer (some ⟨q,0,none⟩))) w')→Q (.returned (.pointer (some ⟨q,0,none⟩))) w') :
  Calls Tryz.prog 153 #[.pointer (some ⟨c,0,none⟩),.int .u8 (k2.toNat:Int)] w Q:=by
 refine (wJ h.out.rd k2).mono ?_;rintro e w' hA;have hA2:=(New.ans hA).behind h.out.fr;rw [← h.out.eq] at hA2;obtain⟨q,rfl,_⟩:=hA;exact hQ q w' hA2
end
end
end Go.Proofs.YtfmpphplbdojbaaGreatDoor
