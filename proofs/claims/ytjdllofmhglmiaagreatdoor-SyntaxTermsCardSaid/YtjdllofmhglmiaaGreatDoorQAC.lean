import Derived.Test.YtjdllofmhglmiaaGreatDoorQAB
namespace Go.Proofs.YtjdllofmhglmiaaGreatDoor
set_option linter.all false
set_option maxHeartbeats 40000000
set_option maxRecDepth 100000
namespace Rf
theorem KZ0 {E:Env}{n:Nat}:zH E n=if E.quoted n then .ok (.mk 27 n n (n+1) []) (n+1) else .ok (vA 0 n) n:=by unfold zH;rw [TX8];split <;> rfl
theorem QX9 {E:Env}{n:Nat}:xX4 E ⟨n,none⟩=if E.quoted n then some (.mk 27 n n (n+1) [],⟨n+1,none⟩) else some (vA 0 n,⟨n,none⟩):=by
 unfold xX4;rw [UX8,kX1];cases E.quoted (n:Int) <;> rfl
theorem YX9 {E:Env}{n k:Nat}:xX4 E ⟨n,some k⟩=some (vA 0 n,⟨n,some k⟩):=by simp [xX4,UX0]
theorem gg {P:Prop} (hh:P:=by
 first
 | assumption
 | exact gX8
 | exact fX4 Ct Ct Ct
 | exact aX1 Ct Ct Ct
 | exact⟨fun _=>List.cons_ne_nil _ _,(show (33:UInt8)≠50 by decide),fun e=>absurd (show (33:UInt8)=53 from e) Ct⟩
 | exact trivial):P:=hh
structure Nn (E:Env) (S':RF->St->O Tr):Prop where
 named:∀ n:Nat,E.named (n:Int)=false->Bd Gd n (S' .named ⟨n,none⟩)
 names:∀ n:Nat,E.named (n:Int)=false->Bd Gd n (S' .names ⟨n,none⟩)
 typ:∀ n:Nat,E.is n [93]=true->Bd Gd n (S' .typ ⟨n,none⟩)
section
variable {α β:Type}{I:α->β}{G:β->Prop}{a b c:Bool}{r r':R α}{m m':O β}{k:Nat}
theorem lo (h:a=true->Sim I G r m) (h':a=false->Sim I G (if b=true then r else r') m):Sim I G (if (a||b)=true then r else r') m:=Es
theorem la (h:a=true->Sim I G (if b=true then r else r') m) (h':a=false->Sim I G r' m):Sim I G (if (a&&b)=true then r else r') m:=Es
theorem ln (h:Sim I G (if a=true then r' else r) m):Sim I G (if (!a)=true then r else r') m:=Es
theorem ll (h:a=true->Sim I G r m) (h':a=false->Sim I G r' m):Sim I G (if a=true then r else r') m:=Es
theorem ro {r:R α} (h:a=true->Sim I G r m) (h':a=false->Sim I G r (if b=true then m else m')):Sim I G r (if (a||b)=true then m else m'):=Es
theorem ra {r:R α} (h:a=true->Sim I G r (if b=true then m else m')) (h':a=false->Sim I G r m'):Sim I G r (if (a&&b)=true then m else m'):=Es
theorem rn {r:R α} (h:Sim I G r (if a=true then m' else m)):Sim I G r (if (!a)=true then m else m'):=Es
theorem rl {r:R α} (h:a=true->Sim I G r m) (h':a=false->Sim I G r m'):Sim I G r (if a=true then m else m'):=Es
theorem bl (h:c=true->Bd G k m) (h':c=false->Bd G k m'):Bd G k (if c=true then m else m'):=by cases c <;> simp_all
end
section
variable {E:Env}{n:Nat}{w:List UInt8}{l:List (List UInt8)}
theorem nX9:am E (n:Int) (w::l)=(E.is n w||am E (n:Int) l):=G5
theorem IZ0:am E ((n:Int)+1) (w::l)=(E.is (n+1) w||am E ((n:Int)+1) l):=G5
theorem LX9:am E ((n:Int)+2) (w::l)=(E.is (n+2) w||am E ((n:Int)+2) l):=G5
theorem nX8 {i:Int}:am E i []=false:=by unfold am;rw [List.any_nil]
theorem CZ0:E.named ((n:Int)+1)=E.named ((n+1:Nat):Int):=Cu
theorem zZ0:E.named ((n:Int)+2)=E.named ((n+2:Nat):Int):=Cu
theorem NZ0:E.quoted ((n:Int)+1)=E.quoted ((n+1:Nat):Int):=Cu
theorem en_ {b:Option Nat}:ends E ⟨n,b⟩=E.ended n:=by unfold ends;simp
theorem zX9 {b:Option Nat}:(St.mk n b).n=n:=by cases b <;> rfl
theorem nis {x:UInt8}{w:List UInt8} (h:E.named (n:Int)=true):E.is n (x::w)=false:=by
 have hk:E.kind (n:Int)=1:=by simpa [Env.named] using h
 unfold Env.is Env.word;unfold Env.kind at hk;have h0:¬ (n:Int) < 0:=Cs
 simp only [h0,Bf,Ai] at hk ⊢;cases ht:E.l[n]? with
 | none=>rfl
 | some t=>simp only [ht] at hk ⊢;rw [hk];rfl
theorem yZ0:generic E n=(E.is n [91]&&iX8 E n):=by
 unfold generic iX8;simp only [LX9,nX8,Bool.or_false];cases E.is n [91] <;> cases E.named ((n:Int)+1) <;> cases E.named ((n:Int)+2) <;> cases E.is (n+2) [44] <;> cases E.is (n+2) [126] <;> cases E.is (n+2) [105,110,116,101,114,102,97,99,101] <;> cases E.is (n+2) [102,117,110,99] <;> cases E.is (n+2) [109,97,112] <;> cases E.is (n+2) [99,104,97,110] <;> cases E.is (n+2) [115,116,114,117,99,116] <;> rfl
theorem fX7 {i:Int} (h:i < 0):E.word i=[]:=by unfold Env.word;rw [Bb h]
theorem QX8 {c:UInt8}{w:List UInt8}:(E.word (RX0 E ((n:Int)+1))==(c::w))=((across E ((n:Int)+1)).2&&E.word (across E ((n:Int)+1)).1==(c::w)):=by
 unfold RX0;cases (across E ((n:Int)+1)).2 with
 | true=>simp
 | false=>simp [fX7]
theorem jZ0:bare E n=FX4 E n:=by
 unfold bare FX4 am;simp only [List.any_cons,List.any_nil,Bool.or_false,QX8];have e:((n:Int)+1)=((n+1:Nat):Int):=Cu
 unfold Env.is;rw [<- e];cases E.named (n:Int) <;> cases (across E ((n:Int)+1)).2 <;> cases (E.word ((n:Int)+1)==[44]) <;> cases (E.word ((n:Int)+1)==[41]) <;> cases (E.word ((n:Int)+1)==[46]) <;> simp
theorem sZ0 (hP:∀ x∈E.pair,-1<=x):embedded E n=jX8 E n:=by
 have e:((n:Int)+1)=((n+1:Nat):Int):=Cu
 unfold embedded jX8 shutI am rK;simp only [List.any_cons,List.any_nil,Bool.or_false,QX8];have h0:decide ((0:Int)<=(n:Int)+1)=true:=Cv
 rw [h0];have hb:(across E ((n:Int)+1)).2=true->0<=(across E ((n:Int)+1)).1:=by
  intro h;unfold across at h ⊢;split at h
  ·rename_i hc;rw [Bb hc];have:=hP (E.pair.getD ((n:Int)+1).toNat 0);rcases Nat.lt_or_ge ((n:Int)+1).toNat E.pair.length with hl|hl
   ·have hm:E.pair.getD ((n:Int)+1).toNat 0∈E.pair:=by rw [List.getD_eq_getElem?_getD,O' hl];exact List.getElem_mem hl
    have:=hP _ hm
    show 0<=E.pair.getD _ 0+1
    omega
   ·rw [List.getD_eq_getElem?_getD,As hl];decide
  ·cases h
 unfold Env.is RX0;rw [<- e];cases hx:(across E ((n:Int)+1)).2 with
 | false=>cases E.named (n:Int) <;> cases (E.word ((n:Int)+1)==[59]) <;> cases (E.word ((n:Int)+1)==[125]) <;> cases (E.word ((n:Int)+1)==[46]) <;> cases E.quoted ((n:Int)+1) <;> simp
 | true =>
  have h1:decide (0<=(across E ((n:Int)+1)).1)=true:=by simpa using hb hx
  simp only [Be,h1];cases E.named (n:Int) <;> cases (E.word ((n:Int)+1)==[59]) <;> cases (E.word ((n:Int)+1)==[125]) <;> cases (E.word ((n:Int)+1)==[46]) <;> cases E.quoted ((n:Int)+1) <;> cases E.quoted (across E ((n:Int)+1)).1 <;> cases (E.word (across E ((n:Int)+1)).1==[59]) <;> simp
theorem nen (h:E.named (n:Int)=true):E.ended n=false:=by
 have:=cX5 h;unfold Env.ended;simp;omega
theorem hZ0 (h:E.literal (n:Int)=true):lfM E 27 true ⟨n,none⟩=some (.mk 27 n n (n+1) [],⟨n+1,none⟩):=by
 unfold lfM;simp [kX1,aX9 h,up_]
theorem isn {x:UInt8}{w:List UInt8} (h:E.is n (x::w)=true):E.named (n:Int)=false:=by
 cases hn:E.named (n:Int) with
 | false=>rfl
 | true=>rw [nis hn] at h;cases h
theorem ise {x:UInt8}{w:List UInt8} (h:E.is n (x::w)=true):E.ended n=false:=by
 have:=gA h;unfold Env.ended;simp;omega
theorem isw {w:List UInt8} (h:E.is n w=true) (w':List UInt8):E.is n w'=(w==w'):=by
 unfold Env.is at h ⊢;rw [B7 h]
end
section
variable {α β:Type}{I:α->β}{G:β->Prop}{b c:Bool}{r r':R α}{m m':O β}{k n:Nat}{E:Env}{x:UInt8}{w:List UInt8}
abbrev Is (E:Env) (n:Nat) (w:List UInt8):Prop:=(∀ w',E.is n w'=(w==w'))/\E.ended n=false/\E.named (n:Int)=false
theorem isI (h:Is E n w):E.is n w=true:=by rw [h.1];simp
theorem isO {a b c d:List UInt8}{w:List UInt8} (h:Is E n w) (h':a=w∨b=w∨c=w∨d=w:=by first|exact .inl rfl|exact .inr (.inl rfl)|exact .inr (.inr (.inl rfl))|exact .inr (.inr (.inr rfl))):E.is n a=true∨E.is n b=true∨E.is n c=true∨E.is n d=true:=by
 have:=isI h;rcases h' with rfl|rfl|rfl|rfl <;> simp [this]
theorem is_ (h:E.is n (x::w)=true):Is E n (x::w):=⟨isw h,ise h,isn h⟩
theorem ei (h:E.ended n=true) (h':Is E n w):False:=by rw [h'.2.1] at h;cases h
theorem lio (h:Is E n (x::w)->Sim I G r m) (h':E.is n (x::w)=false->Sim I G (if b=true then r else r') m):Sim I G (if (E.is n (x::w)||b)=true then r else r') m:=lo (fun e=>h (is_ e)) h'
theorem lia (h:Is E n (x::w)->Sim I G (if b=true then r else r') m) (h':E.is n (x::w)=false->Sim I G r' m):Sim I G (if (E.is n (x::w)&&b)=true then r else r') m:=la (fun e=>h (is_ e)) h'
theorem li (h:Is E n (x::w)->Sim I G r m) (h':E.is n (x::w)=false->Sim I G r' m):Sim I G (if E.is n (x::w)=true then r else r') m:=ll (fun e=>h (is_ e)) h'
theorem rio {r:R α} (h:Is E n (x::w)->Sim I G r m) (h':E.is n (x::w)=false->Sim I G r (if b=true then m else m')):Sim I G r (if (E.is n (x::w)||b)=true then m else m'):=ro (fun e=>h (is_ e)) h'
theorem ria {r:R α} (h:Is E n (x::w)->Sim I G r (if b=true then m else m')) (h':E.is n (x::w)=false->Sim I G r m'):Sim I G r (if (E.is n (x::w)&&b)=true then m else m'):=ra (fun e=>h (is_ e)) h'
theorem ri {r:R α} (h:Is E n (x::w)->Sim I G r m) (h':E.is n (x::w)=false->Sim I G r m'):Sim I G r (if E.is n (x::w)=true then m else m'):=rl (fun e=>h (is_ e)) h'
theorem okT {G:Tr->Prop}{a:Tr}{n:Nat}:gX0 G (.ok a n) (some (a,⟨n,none⟩)):=rfl
theorem pX1 {G:β->Prop}{m:O β} (h:Bd G k m):Sim I G (.bad k) m:=h
end
theorem rr {P:Prop} (hh:P:=by
 first
 | trivial
 | rfl
 | assumption
 | decide
 | exact⟨rfl,Dt⟩
 | exact⟨rfl,isI ‹_›⟩
 | exact⟨rfl,isO ‹_›⟩
 | exact isI ‹_›
 | exact .inr ⟨rfl,rfl⟩
 | exact⟨rfl,.inl ⟨rfl,rfl⟩⟩
 | exact⟨rfl,.inr ⟨rfl,rfl⟩⟩
 | exact .inl ⟨rfl,.inl rfl⟩
 | exact .inl ⟨rfl,.inr rfl⟩):P:=hh
theorem mn {P:Prop} (hh:P:=by
 repeat' first
  | with_reducible exact okT
  | contradiction
  | exact Bd.some gg
  | (simp only [wX0,VX0,mX0,vX1,kX1,UX0,up_,zX9,en_,iX4,mX4,eX4,MX9,VX1,kX4,UX8,pZ0,KZ0,QX9,YX9,CX3,EX3,TX8,want,one,wrapT,mC,after,leaf,hZ0,yZ0,jZ0,sZ0 hP,nen,typeNext,xX1,hushed,quiet,nX9,IZ0,LX9,nX8,CZ0,zZ0,NZ0,nis,Nat.add_assoc,Nat.reduceAdd,ZQ9,hX0,aX0,Ar,Ao,Bool.or_assoc,Bool.and_assoc,id,List.cons_beq_cons,List.beq_nil_eq,List.nil_beq_eq,List.isEmpty_cons,BEq.rfl, *,bs])
  | with_reducible refine lio (fun h=>?_) (fun h=>?_)
  | with_reducible refine lia (fun h=>?_) (fun h=>?_)
  | with_reducible refine li (fun h=>?_) (fun h=>?_)
  | with_reducible refine lo (fun h=>?_) (fun h=>?_)
  | with_reducible refine la (fun h=>?_) (fun h=>?_)
  | with_reducible refine ln ?_
  | with_reducible refine ll (fun h=>?_) (fun h=>?_)
  | with_reducible refine rio (fun h=>?_) (fun h=>?_)
  | with_reducible refine ria (fun h=>?_) (fun h=>?_)
  | with_reducible refine ri (fun h=>?_) (fun h=>?_)
  | with_reducible refine ro (fun h=>?_) (fun h=>?_)
  | with_reducible refine ra (fun h=>?_) (fun h=>?_)
  | with_reducible refine rn ?_
  | with_reducible refine rl (fun h=>?_) (fun h=>?_)
  | with_reducible refine bl (fun h=>?_) (fun h=>?_)
  | with_reducible refine pX1 ?_
  | refine (hR _ Cs).callx (fun x m hx=>?_) (fun x m k hx=>?_)
  | refine (hR _ Cs).call _ rr rr (fun x m hx=>?_) (fun x m k hx=>?_)
  | exact (hR _ Cs).tail _ rr rr
  | refine Bd.bind (hN.named _ ‹_›) (fun x m hx=>?_)
  | refine hB.call _ rfl (fun x m hx=>?_)
  | exact hB.tail _ rfl
  | exact (ei ‹_› ‹_›).elim):P:=hh
set_option linter.unusedSectionVars false
section
variable {E:Env}{K k n:Nat}{g:Bool}{S':RF->St->O Tr} (hR:∀ i,i<=k->Rel E (spec E i) S') (hB:BX3 S') (hK:k+10<=K) (hP:∀ x∈E.pair,-1<=x) (hN:Nn E S')
include hR hB hK hP hN
theorem YX8:gX0 Gd (fnB E (spec E k) n false) (fnM E S' ⟨n,none⟩):=by
 unfold fnB fnM;exact mn
theorem kX5 {w:List UInt8} (h1:(w==[105,109,112,111,114,116])=true):gX0 Gd (uB E n) (ZX1 E S' w ⟨n,none⟩):=by
 unfold uB ZX1;exact mn
theorem MX6 {w:List UInt8} (h1:(w==[105,109,112,111,114,116])=false) (h2:(w==[116,121,112,101])=false) (h3:(w==[99,111,110,115,116])=true):gX0 Gd (LB E (spec E k) n false) (ZX1 E S' w ⟨n,none⟩):=by
 unfold LB ZX1;exact mn
theorem AX6 {w:List UInt8} (h1:(w==[105,109,112,111,114,116])=false) (h2:(w==[116,121,112,101])=false) (h3:(w==[99,111,110,115,116])=false):gX0 Gd (IB E (spec E k) n false) (ZX1 E S' w ⟨n,none⟩):=by
 unfold IB ZX1;exact mn
theorem wX4 {w:List UInt8} (h1:(w==[105,109,112,111,114,116])=false) (h2:(w==[116,121,112,101])=true):gX0 Gd (rC E (spec E k) n false) (ZX1 E S' w ⟨n,none⟩):=by
 unfold rC ZX1 jX2;exact mn
theorem QX3:gX0 Gd (NB E (spec E k) n false) (NX0 E S' ⟨n,none⟩):=by
 unfold NB NX0;exact mn
theorem HX6:gX0 Gd (NE E (spec E k) n false) (MX3 E S' ⟨n,none⟩):=by
 unfold NE MX3;exact mn
theorem xX8:gX0 Gd (tI E (spec E k) n) (IX5 E S' ⟨n,none⟩):=by
 unfold tI IX5;exact mn
theorem AX7 {fr:Nat}:gX0 Gd (NJ E (spec E k) fr n) (dX1 E S' fr ⟨n,none⟩):=by
 unfold NJ dX1;exact mn
theorem gX6:gX0 Gd (WE E (spec E k) n false) (nX3 E S' ⟨n,none⟩):=by
 unfold WE nX3;exact mn
theorem VX6:gX0 Gd (kG E (spec E k) n false) (OX4 E S' ⟨n,none⟩):=by
 unfold kG OX4;exact mn
theorem sX6:gX0 Gd (FE E (spec E k) n g) (QX2 E S' g ⟨n,none⟩):=by
 unfold FE QX2;exact mn
theorem ZX4:gX0 Gd (PC E (spec E k) n g) (sX1 E S' ⟨n,none⟩):=by
 unfold PC sX1;exact mn
theorem lX8 {fr:Nat}{x:Tr} (h:E.is n [46]=true):gX0 Gd (SJ E (spec E k) fr x n g) (yX2 E S' x fr ⟨n,none⟩):=by
 unfold SJ yX2;rw [mX0,Bb h];exact mn
theorem yX5:gX0 Gd (QE E (spec E k) n false) (vX3 E S' ⟨n,none⟩):=by
 unfold QE vX3;exact mn
theorem KX4:gX0 Gd (QC E (spec E k) n false) (WX1 E S' ⟨n,none⟩):=by
 unfold QC WX1;exact mn
theorem yX6:gX0 Gd (EE E (spec E k) n g) (UX2 E S' ⟨n,none⟩):=by
 unfold EE UX2;exact mn
theorem BX4 (h:E.is n [115,101,108,101,99,116]=true):gX0 Gd (dD (spec E k) n false) (UX1 E S' ⟨n,none⟩):=by
 unfold dD UX1;rw [mX0,Bb h];exact mn
theorem CX5:gX0 Gd (RD (spec E k) n false) (mX2 S' ⟨n,none⟩):=by
 unfold RD mX2;exact mn
theorem ZX3:gX0 Gd (nH E (spec E k) n g) (GX2 E S' ⟨n,none⟩):=by
 unfold nH GX2;exact mn
end
end Rf
namespace Rf
set_option linter.unusedSectionVars false
section
variable {E:Env}{K k n:Nat}{g:Bool}{S':RF->St->O Tr} (hR:∀ i,i<=k->Rel E (spec E i) S') (hB:BX3 S') (hK:k+10<=K) (hP:∀ x∈E.pair,-1<=x) (hN:Nn E S')
include hR hB hK hP hN
theorem rX6:gX0 Gd (OD E (spec E k) n false) (EX0 E (K+1) 10 [44] (DX0 E) ⟨n,none⟩):=by
 unfold OD EX0;simp only [EX3,VX1,oA,mA,PA,hX0,ZQ9];refine Sim.ite (fun h=>?_) (fun h=>?_)
 ·exact PX1 (Y:=fun i acc n=>(spec E i).t (.namesMore acc) n false) (f0:=fun _ n=>LC E n) (f:=DX0 E) (G:=fun _=>True) (fun _ _=>.inl rfl) (fun _ _ _=>rfl) (fun _ _ n=>⟨by rw [EX3,VX1];exact Sim.ite (fun _=>rfl) (fun _=>Bd.some trivial),fun _ _ _=>trivial⟩) (fun l m _=>aX1 Ct Ct Ct) k _ _ K (C' _) Cs (fun _ _=>trivial)
 ·refine pX1 ?_;exact zcv
theorem uX6:gX0 Gx (((spec E k).t .expr n g).andThen fun x n1=>(spec E k).t (.exprsMore [x]) n1 g) (EX0 E (K+1) 11 [44] (S' (.expr g)) ⟨n,none⟩):=by
 unfold EX0;refine (hR _ (C' _)).call .expr trivial trivial (fun x m hx=>?_) (fun x m q hx=>?_)
 ·exact PX1 (Y:=fun i acc n=>(spec E i).t (.exprsMore acc) n g) (f0:=fun i n=>(spec E i).t .expr n g) (G:=G3) (fun _ _=>.inl rfl) (fun _ _ _=>rfl) (fun i hi n=>⟨Sim.mono (hR i Cs .expr g n trivial trivial) (fun _ h=>h.gd.1),fun a m e=>RX7 ((ZF E i).t .expr n g trivial a m e)⟩) (fun l m h=>hX4 h) k _ _ K (C' _) Cs (fun y hy=>by simp at hy;subst hy;exact RX7 hx)
 ·rw [cX0 uX2 Cs];exact Bd.some (hX4 (fun y hy=>by simp at hy;subst hy;exact hx.1))
theorem OX6:gX0 Gd (((spec E k).t .typ n g).andThen fun x n1=>(spec E k).t (.typesMore [x]) n1 g) (EX0 E (K+1) 11 [44] (S' .typ) ⟨n,none⟩):=by
 unfold EX0;refine (hR _ (C' _)).call .typ trivial trivial (fun x m hx=>?_) (fun x m q hx=>?_)
 ·exact PX1 (Y:=fun i acc n=>(spec E i).t (.typesMore acc) n g) (f0:=fun i n=>(spec E i).t .typ n g) (G:=fun _=>True) (fun _ _=>.inl rfl) (fun _ _ _=>rfl) (fun i hi n=>⟨Sim.mono (hR i Cs .typ g n trivial trivial) (fun _ _=>trivial),fun _ _ _=>trivial⟩) (fun l m _=>aX1 Ct Ct Ct) k _ _ K (C' _) Cs (fun _ _=>trivial)
 ·exact zcv
theorem jX6:gX0 Gd (jB E (spec E k) [] n false) (EX0 E (K+1) 18 [124] (GX2 E S') ⟨n,none⟩):=by
 unfold jB EX0;refine Sim.bind (ZX3 hR hB hK hP hN) (fun x m _=>?_) (fun x m q _=>?_)
 ·exact PX1 (Y:=fun i acc n=>if E.is n [124] then (spec E i).t (.unionMore acc) (n+1) false else .ok (xC 18 acc n) n) (f0:=fun i n=>nH E (spec E i) n false) (G:=fun _=>True) (fun acc n=>by
    cases E.is n [124] with
    | true=>exact .inl rfl
    | false=>exact .inr ⟨rfl,rfl⟩) (fun _ _ _=>rfl) (fun i hi n=>⟨Sim.mono (ZX3 (k:=i) (fun j hj=>hR j Cs) hB (show i+10<=K by omega) hP hN) (fun _ _=>trivial),fun _ _ _=>trivial⟩) (fun l m _=>aX1 Ct Ct Ct) k _ _ K (C' _) Cs (fun _ _=>trivial)
 ·exact zcv
theorem RX6 (f:F) {o:One} (ho:∀ i n,(spec E (i+1)).t (.one o) n false=(spec E i).t f n false) (hr:∀ n,rel E f false n) (hs:shF f) (i:Nat) (hi:i < k) (n:Nat):∃ G,gX0 G ((spec E i).t (.one o) n false) (S' (tr f false) ⟨n,none⟩):=by
 refine⟨fun _=>True,?_⟩;cases i with
 | zero=>trivial
 | succ i=>rw [ho];exact Sim.mono (hR i Cs f false n (hr n) hs) (fun _ _=>trivial)
theorem fV {o:One} (hr:∀ n,rel E (.one o) false n) (hs:shF (.one o)) (i:Nat) (hi:i < k) (n:Nat):∃ G,gX0 G ((spec E i).t (.one o) n false) (S' (tr (.one o) false) ⟨n,none⟩) :=
 ⟨fun _=>True,Sim.mono (hR i Cs (.one o) false n (hr n) hs) (fun _ _=>trivial)⟩
theorem jX5:gX0 Gd (XD E (spec E k) n false) (gX2 E (K+1) S' ⟨n,none⟩):=by
 unfold XD gX2 rows;simp only [mX0,want,oA,mA,PA,hX0,ZQ9];refine Sim.ite (fun _=>?_) (fun _=>?_)
 ·exact gX1 (n0:=n+1) (o:=.param) (fun _ _=>rfl) Ht (fV hR hB hK hP hN (o:=.param) (fun _=>rfl) trivial) (fun l m _=>mn) (fun l m q=>mn) k [] (n+1) K (C' _) Cs (fun _=>rfl) (.inr (.inl rfl))
 ·exact zcj
theorem AX4 (h0:E.is n [91]=true):gX0 Gd (XC E (spec E k) n false) (SX1 E (K+1) S' ⟨n,none⟩):=by
 have hz:∀ i,i < k->∀ n,∃ G,gX0 G ((spec E i).t (.one .tparam) n false) (mX2 S' ⟨n,none⟩):=fun i hi n=>by
  cases i with
  | zero=>exact⟨fun _=>True,trivial⟩
  | succ i=>exact⟨_,CX5 (k:=i) (fun j hj=>hR j Cs) hB (show i+10<=K by omega) hP hN⟩
 unfold XC SX1 rows;simp only [mX0,h0,want,Be,mA,ZQ9];refine ll (fun h=>?_) (fun h=>?_)
 ·refine pX1 ?_;rw [LX0,OX8];simp only [List.isEmpty_nil,Bool.true_or,Be,aX0,mX2];refine Bd.bind (hN.names _ (isn h)) (fun x m _=>?_);refine hB.call .union rfl (fun y m _=>?_);simp only [CX3,ZQ9,VX0,Ba,Bf,vX1,Be];rw [cX0 XX2 Cs];exact mn
 ·exact gX1 (n0:=n+1) (first:=List.isEmpty) (fun l hl=>by cases l with|nil=>exact absurd rfl hl|cons=>rfl) Ht hz (fun l m _=>mn) (fun l m q=>mn) k [] (n+1) K (C' _) Cs (fun _=>rfl) (.inr (.inr h))
theorem QX4 {kind:UInt8}{o:One} (h:kind=20/\o=.field∨kind=23/\o=.elem):gX0 Gd (CB E (spec E k) kind o n false) (QX1 E (K+1) S' (if kind=23 then [105,110,116,101,114,102,97,99,101] else [115,116,114,117,99,116]) ⟨n,none⟩):=by
 unfold CB QX1 rows;rcases h with ⟨rfl,rfl⟩|⟨rfl,rfl⟩
 ·simp only [show (if (20:UInt8)=23 then [105,110,116,101,114,102,97,99,101] else [115,116,114,117,99,116]:List UInt8)=[115,116,114,117,99,116] from rfl,show (([115,116,114,117,99,116]:List UInt8)==[115,116,114,117,99,116])=true from rfl,show (([115,116,114,117,99,116]:List UInt8)==[105,110,116,101,114,102,97,99,101])=false from rfl,mX0,want,oA,mA,PA,hX0,ZQ9,Be,Ba,Bf];refine Sim.ite (fun _=>?_) (fun _=>?_)
  ·exact gX1 (n0:=n+1) (o:=.field) (fun _ _=>rfl) Ht (fV hR hB hK hP hN (o:=.field) (fun _=>rfl) trivial) (fun l m _=>mn) (fun l m q=>mn) k [] (n+1) K (C' _) Cs (fun _=>rfl) (.inr (.inl rfl))
  ·exact zcj
 ·simp only [show (if (23:UInt8)=23 then [105,110,116,101,114,102,97,99,101] else [115,116,114,117,99,116]:List UInt8)=[105,110,116,101,114,102,97,99,101] from rfl,show (([105,110,116,101,114,102,97,99,101]:List UInt8)==[115,116,114,117,99,116])=false from rfl,show (([105,110,116,101,114,102,97,99,101]:List UInt8)==[105,110,116,101,114,102,97,99,101])=true from rfl,mX0,want,oA,mA,PA,hX0,ZQ9,Be,Ba,Bf];refine Sim.ite (fun _=>?_) (fun _=>?_)
  ·exact gX1 (n0:=n+1) (o:=.elem) (fun _ _=>rfl) Ht (fV hR hB hK hP hN (o:=.elem) (fun _=>rfl) trivial) (fun l m _=>mn) (fun l m q=>mn) k [] (n+1) K (C' _) Cs (fun _=>rfl) (.inr (.inl rfl))
  ·exact zcj
theorem nX4:gX0 Gd (OB E (spec E k) n) (wX1 E (K+1) S' ⟨n,none⟩):=by
 have hz:∀ i,i < k->∀ n,∃ G,gX0 G ((spec E i).t (.one .element) n false) (WX1 E S' ⟨n,none⟩):=fun i hi n=>by
  cases i with
  | zero=>exact⟨fun _=>True,trivial⟩
  | succ i=>exact⟨_,KX4 (k:=i) (fun j hj=>hR j Cs) hB (show i+10<=K by omega) hP hN⟩
 unfold OB wX1 rows;simp only [mX0,want,oA,mA,PA,hX0,ZQ9];refine Sim.ite (fun _=>?_) (fun _=>?_)
 ·refine gX1 (n0:=n+1) (fun _ _=>rfl) Ht hz (fun l m hl=>?_) (fun l m q=>mn) k [] (n+1) K (C' _) Cs (fun _=>rfl) (.inr (.inl rfl));have e:xC 12 l m=xC 12 l (n+1):=by
   by_cases h0:l=[]
   ·rw [hl h0]
   ·exact FX2 h0
  rw [e];exact mn
 ·exact zcj
theorem qX6 (h:E.is n [105,109,112,111,114,116]=true∨E.is n [99,111,110,115,116]=true∨E.is n [118,97,114]=true∨E.is n [116,121,112,101]=true):gX0 Gd (CE E (spec E k) n false) (KX3 E (K+1) S' ⟨n,none⟩):=by
 have hl:n < E.l.length:=by rcases h with h|h|h|h <;> exact gA h
 have hone:∃ w,E.word (n:Int)=w/\∀ i,i<=k->∀ n',gX0 (GF (.spec w)) ((spec E i).t (.one (EN E n)) n' false) (S' (.spec w) ⟨n',none⟩):=by
  rcases h with h|h|h|h
  all_goals refine⟨_,B7 h,fun i hi n'=>?_⟩
  ·have e:EN E n=.importSpec:=by unfold EN;rw [Bb h]
   rw [e];exact hR i hi (.one .importSpec) false n' rfl trivial
  ·have e:EN E n=.constSpec:=by unfold EN;simp only [isw h];rfl
   rw [e];exact hR i hi (.one .constSpec) false n' rfl trivial
  ·have e:EN E n=.valueSpec:=by unfold EN;simp only [isw h];rfl
   rw [e];exact hR i hi (.one .valueSpec) false n' rfl trivial
  ·have e:EN E n=.typeSpec:=by unfold EN;simp only [isw h];rfl
   rw [e];exact hR i hi (.one .typeSpec) false n' rfl trivial
 obtain⟨w,hw,hone⟩:=hone;unfold CE KX3 rows upM;simp only [zX9,hl,hw,Be,up_,wX0,mX0,want,oA,mA,PA,hX0,ZQ9];refine Sim.ite (fun h1=>?_) (fun _=>?_)
 ·simp only [h1,Be];exact gX1 (n0:=n+1+1) (fun _ _=>rfl) (by unfold EN;intro e;split at e <;> (try split at e) <;> (try split at e) <;> cases e) (fun i hi n=>⟨_,hone i Cs n⟩) (fun l m _=>mn) (fun l m q=>mn) k [] _ K (C' _) Cs (fun _=>rfl) (.inr (.inl rfl))
 ·refine Sim.bind (hone k (C' _) (n+1)) (fun x m _=>?_) (fun x m q _=>?_)
  ·exact mn
  ·exact mn
end
end Rf
namespace Rf
set_option linter.unusedSectionVars false
section
variable {E:Env}{K k n:Nat}{g:Bool}{S':RF->St->O Tr} (hR:∀ i,i<=k->Rel E (spec E i) S') (hB:BX3 S') (hK:k+10<=K) (hP:∀ x∈E.pair,-1<=x) (hN:Nn E S')
include hR hB hK hP hN
theorem NX5:gX0 Gd (((spec E k).t .exprs n g).andThen fun l n1=>(spec E k).t (.rest n l) n1 g) (bnd (S' (.exprs g) ⟨n,none⟩) fun l s1=>S' (.rest l n g) s1):=by
 exact mn
theorem IX7 {fr:Nat}{l:Tr} (hl:Sh l):gX0 Gd (WF E (spec E k) fr l n g) (aX4 E S' l fr g ⟨n,none⟩):=by
 have ha:assigns (E.word (n:Int))=am E (n:Int) HX0:=by
  unfold assigns am HX0;simp only [List.contains_cons,List.any_cons,List.contains_nil,List.any_nil]
 unfold WF aX4;rw [ha];refine ll (fun h=>?_) (fun h=>?_)
 ·simp only [kX1,h,Bool.true_and,Be,up_];refine (hR _ (C' _)).callx (fun x m hx=>?_) (fun x m q hx=>?_)
  ·exact mn
  ·exact Bd.some ⟨fun e=>absurd (show (53:UInt8)=33 from e) Ct,(show (53:UInt8)≠50 by decide),fun _=>⟨l,x,rfl,hx.2⟩⟩
 ·simp only [kX1,h,Bool.true_and,Bool.not_true,Ba,Bf];rcases hk:l.kids with _|⟨x,_|⟨y,r⟩⟩
  ·exact mn
  ·exact mn
  ·exact mn
theorem tX3 {t:Tr} (ht:Sh t):gX0 Gd (only t n) (XX0 t ⟨n,none⟩):=by
 unfold only XX0;have ha:=ht.arity;by_cases h:t.kind=50
 ·simp only [kX1,h,Be,bne_self_eq_false,Bool.not_true,Bool.or_self,Ba,Bf];rcases hk:t.kids with _|⟨x,r⟩
  ·rw [h,hk] at ha;exact absurd ha Ct
  ·exact rfl
 ·have h':(t.kind != 50)=true:=by simpa using h
  simp only [kX1,h,h',Be,Bf,Bool.not_true,Bool.or_true,iX4];exact Bd.some gg
theorem jX3 {t:Tr}{m q:Nat}:XX0 t ⟨m,some q⟩=some (zT,⟨m,some q⟩):=by
 unfold XX0;simp only [UX0,Bu,Bool.true_or,Be,mX4]
theorem kX9 {m q:Nat}:lX3 E S' ⟨m,some q⟩=some (vA 0 m,⟨m,some q⟩):=by
 unfold lX3;simp only [VX0,Ba,Bf]
theorem aX2 {fr:Nat}{first c:Tr}:gX0 Gd (SD E (spec E k) fr first c n false) (bnd (S' .block ⟨n,none⟩) fun b s3=>bnd (lX3 E S' s3) fun o s4=>ret 59 (-1) fr [first,c,b,o] s4):=by
 unfold SD lX3;exact mn
theorem lX2 {fr m q:Nat}{first c:Tr}:Bd Gd q (bnd (S' .block ⟨m,some q⟩) fun b s3=>bnd (lX3 E S' s3) fun o s4=>ret 59 (-1) fr [first,c,b,o] s4):=by
 refine hB.call .block rfl (fun x m _=>?_);rw [kX9 hR hB hK hP hN];exact mn
theorem fX8 (h:E.is n [105,102]=true):gX0 Gd (XI E (spec E k) n false) (DX7 E S' ⟨n,none⟩):=by
 unfold XI DX7;simp only [mX0,h,Be,ZQ9,wX0,hX0,aX0];refine Sim.ite (fun h1=>?_) (fun h1=>?_)
 ·simp only [h1,Be];exact zb9
 ·refine (hR _ (C' _)).call .simple trivial trivial (fun x m hx=>?_) (fun x m q hx=>?_)
  ·simp only [wX0];refine Sim.ite (fun h1=>?_) (fun h1=>?_)
   ·simp only [mX0,h1,Be,ZQ9];exact zb9
   ·refine Sim.bind (tX3 hR hB hK hP hN hx) (fun y m _=>?_) (fun y m q _=>?_)
    ·exact aX2 hR hB hK hP hN
    ·exact lX2 hR hB hK hP hN
  ·simp only [VX0,jX3 hR hB hK hP hN,Ba,Bf,ZQ9];exact lX2 hR hB hK hP hN
theorem TX9 {t:Tr} (ht:Sh t) (h:t.kind=33):∃ y,t.kids=[y]:=by
 exact zb1
theorem tZ0 {t:Tr} (ht:Sh t) (h:t.kind=53):∃ y z,t.kids=[y,z]:=by
 have ha:=ht.arity;rw [h] at ha;rcases hk:t.kids with _|⟨y,_|⟨z,_|⟨u,r⟩⟩⟩
 ·exact ze8
 ·rw [hk] at ha;exact absurd ha (show ¬ okN 53 1=true by decide)
 ·exact⟨y,z,rfl⟩
 ·rw [hk] at ha;simp only [okN,arT] at ha;simp at ha
theorem uZ0 {t:Tr} (ht:Sh t) (h:t.kind=50):∃ y,t.kids=[y]:=by
 exact zb1
theorem mX6 {t:Tr} (ht:Sh t):mX1 E t=some (asked E t):=by
 have hsk:=ht.kids;by_cases h0:t.kind=50
 ·obtain⟨x,hx⟩:=uZ0 hR hB hK hP hN ht h0;unfold mX1 asked;rw [hx] at hsk ⊢;by_cases h3:x.kind=33
  ·obtain⟨y,hy⟩:=TX9 hR hB hK hP hN hsk.1 h3;simp [h0,h3,hy]
  ·simp [h0,h3]
 ·by_cases h1:t.kind=53
  ·obtain⟨l,r,hx⟩:=tZ0 hR hB hK hP hN ht h1;unfold mX1 asked;rw [hx] at hsk ⊢;rcases hl:l.kids with _|⟨a,_|⟨a',ra⟩⟩
   ·simp [h1,hl]
   ·rcases hr:r.kids with _|⟨b,_|⟨b',rb⟩⟩
    ·simp [h1,hl,hr]
    ·have hb:Sh b:=Shs.mem hsk.2.1.kids (by rw [hr];simp);by_cases h26:a.kind=26
     ·by_cases h33:b.kind=33
      ·obtain⟨y,hy⟩:=TX9 hR hB hK hP hN hb h33;by_cases hw:E.word t.word=[58,61]
       ·simp [h1,hl,hr,h26,h33,hy,hw]
       ·simp [h1,hl,hr,h26,h33,hy,hw]
      ·simp [h1,hl,hr,h26,h33]
     ·simp [h1,hl,hr,h26]
    ·simp [h1,hl,hr]
   ·simp [h1,hl]
  ·have e:asked E t=none:=by
    unfold asked;split
    ·exact absurd (show t.kind=50 by assumption) h0
    ·exact absurd (show t.kind=53 by assumption) h1
    ·rfl
   rw [e];unfold mX1;rcases hk:t.kids with _|⟨x,r⟩ <;> simp [h0,h1]
theorem pX8 {t:Tr} (ht:Gd t):∃ o,mX1 E t=some o:=by
 obtain⟨_,h50,h53⟩:=ht;unfold mX1;by_cases h1:t.kind=53
 ·obtain⟨l,r,hx,hg⟩:=h53 h1;rw [hx];rcases hl:l.kids with _|⟨a,_|⟨a',ra⟩⟩
  ·simp [h1,hl]
  ·rcases hr:r.kids with _|⟨b,_|⟨b',rb⟩⟩
   ·simp [h1,hl,hr]
   ·by_cases h33:b.kind=33
    ·rcases hb:b.kids with _|⟨y,rr⟩
     ·exact absurd hb (hg b (by rw [hr];simp) h33)
     ·by_cases hw:E.word t.word=[58,61] <;> by_cases h26:a.kind=26 <;> simp [h1,hl,hr,h33,hb,hw,h26]
    ·simp [h1,hl,hr,h33]
   ·simp [h1,hl,hr]
  ·simp [h1,hl]
 ·rcases hk:t.kids with _|⟨x,r⟩ <;> simp [h50,h1]
theorem rX5 {fr m q:Nat}{first last:Tr}{b:Bool} (ht:b=true->Gd last):Bd Gd q (pX2 E S' fr first last b ⟨m,some q⟩):=by
 unfold pX2;cases b with
 | false=>exact mn
 | true =>
  obtain⟨o,ho⟩:=pX8 hR hB hK hP hN (ht rfl);rw [ho];cases o with
  | none=>simp only [Be,jX3 hR hB hK hP hN];exact mn
  | some p=>obtain⟨a,b⟩:=p;exact mn
theorem KX2 {fr:Nat}{first:Tr}{s:Option Tr}{tag:Tr} (hs:∀ t,s=some t->Sh t):gX0 Gd (qB E (spec E k) fr first s tag n false) (pX2 E S' fr first (s.getD tag) s.isSome ⟨n,none⟩):=by
 unfold qB pX2;cases s with
 | none=>simp only [Option.isSome_none,Option.getD_none];exact mn
 | some s =>
  simp only [Option.isSome_some,Be,Option.getD_some,mX6 hR hB hK hP hN (hs s rfl)];cases asked E s with
  | none =>
   refine Sim.bind (tX3 hR hB hK hP hN (hs s rfl)) (fun y m _=>?_) (fun y m q _=>?_)
   ·exact mn
   ·exact mn
  | some p=>exact mn
theorem IX3 {fr:Nat}{first:Tr} (h:E.is n [59]=true):gX0 Gd (nB E (spec E k) fr first (n+1) false) (fX1 E S' fr first ⟨n,none⟩):=by
 unfold nB fX1;simp only [mX0,h,Be,ZQ9,wX0];refine Sim.ite (fun _=>?_) (fun _=>?_)
 ·exact Co
 ·refine (hR _ (C' _)).call .simple trivial trivial (fun x m hx=>?_) (fun x m q hx=>?_)
  ·exact zd6
  ·exact rX5 hR hB hK hP hN (fun _=>hx)
theorem tX4 (h:E.is n [115,119,105,116,99,104]=true):gX0 Gd (qC E (spec E k) n false) (rX1 E S' ⟨n,none⟩):=by
 unfold qC rX1;simp only [mX0,h,Be,ZQ9,wX0];refine Sim.ite (fun _=>?_) (fun _=>Sim.ite (fun h1=>?_) (fun _=>?_))
 ·exact Co
 ·exact IX3 hR hB hK hP hN h1
 ·refine (hR _ (C' _)).call .simple trivial trivial (fun x m hx=>?_) (fun x m q hx=>?_)
  ·simp only [wX0];refine Sim.ite (fun h1=>?_) (fun _=>?_)
   ·exact IX3 hR hB hK hP hN h1
   ·exact zd6
  ·simp only [VX0,Ba,Bf];exact rX5 hR hB hK hP hN (fun _=>hx)
theorem lX6 {sort:Nat} (h:sort=1∨sort=2∨sort=3):gX0 Gd (PE (spec E k) sort n false) (VX2 E (K+1) S' sort ⟨n,none⟩):=by
 unfold PE VX2;rcases h with rfl|rfl|rfl
 ·exact mn
 ·simp only [show ¬ (2:Nat)=1 by decide,show ¬ (2:Nat)=3 by decide,Be,Bf];cases k with
  | zero=>trivial
  | succ k=>exact OX6 (k:=k) (fun i hi=>hR i Cs) hB Cs hP hN
 ·exact mn
theorem ZX2 {fr:Nat}{a:Tr}:gX0 Gd (kD E (spec E k) fr a n false) (AX1 E S' fr a ⟨n,none⟩):=by
 unfold kD AX1;exact mn
theorem pX7 (h:E.is n [102,111,114]=true):gX0 Gd (fG E (spec E k) n false) (XX4 E S' ⟨n,none⟩):=by
 unfold fG XX4;simp only [mX0,h,Be,ZQ9,wX0];refine Sim.ite (fun _=>?_) (fun _=>Sim.ite (fun h1=>?_) (fun _=>Sim.ite (fun h1=>?_) (fun _=>?_)))
 ·exact mn
 ·cases k with
  | zero=>trivial
  | succ k =>
   show gX0 Gd (cD E (spec E k) n (-1) (vA 0 (n+1)) (n+1) false) _
   unfold cD;exact mn
 ·exact ZX2 hR hB hK hP hN
 ·refine (hR _ (C' _)).call .exprs trivial trivial (fun l m hl=>?_) (fun l m q hl=>?_)
  ·have er:QX0 E ⟨m,none⟩=((E.is m [61]||E.is m [58,61])&&E.is (m+1) [114,97,110,103,101]):=by unfold QX0;simp [kX1]
   rw [er];refine Sim.ite (fun h1=>?_) (fun _=>?_)
   ·have h2:E.is (m+1) [114,97,110,103,101]=true:=by
     cases hq:E.is (m+1) [114,97,110,103,101] with
     | true=>rfl
     | false=>rw [hq] at h1;simp at h1
    cases k with
    | zero=>trivial
    | succ k =>
     show gX0 Gd (cD E (spec E k) n m l (m+1) false) _
     unfold cD;exact mn
   ·refine (hR _ (C' _)).call (.rest (n+1) l) trivial hl (fun x m hx=>?_) (fun x m q hx=>?_)
    ·simp only [wX0];refine Sim.ite (fun h1=>?_) (fun _=>?_)
     ·exact ZX2 hR hB hK hP hN
     ·refine Sim.bind (tX3 hR hB hK hP hN hx) (fun y m _=>?_) (fun y m q _=>?_)
      ·exact mn
      ·exact mn
    ·exact zdn
  ·simp only [QX0,UX0,Bool.false_and,Ba,Bf];refine hB.call (.rest l (n+1) true) rfl (fun x m hx=>?_);exact zdn
end
end Rf
