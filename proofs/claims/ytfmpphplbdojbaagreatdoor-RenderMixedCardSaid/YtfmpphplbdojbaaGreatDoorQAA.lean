import Derived.Test.YtfmpphplbdojbaaGreatDoorProg
namespace Go.Proofs.YtfmpphplbdojbaaGreatDoor
set_option linter.all false
set_option maxHeartbeats 40000000
set_option maxRecDepth 100000
section
variable{P:Prop}
abbrev C':=@Nat.le_refl
abbrev F':=@List.getElem?_cons_succ
abbrev H':=@List.getElem?_cons_zero
abbrev I':=@List.getElem?_toArray
abbrev M':=@List.getElem?_eq_getElem
abbrev N':=@List.setIfInBounds_toArray
abbrev O':=@List.length_append
abbrev Q':=@List.set_cons_zero
abbrev S':=@List.set_cons_succ
abbrev V':=@List.length_drop
abbrev Z':=@List.eq_nil_of_length_eq_zero
abbrev Aa:=@Int.eq_ofNat_of_zero_le
abbrev Ab:=@List.length_cons
abbrev Ae:=@Int.toNat_natCast
abbrev Af:=@Nat.lt_of_lt_of_le
abbrev Ah:=@Array.getElem?_eq_some_iff
abbrev Ai:=@List.getElem?_eq_some_iff
abbrev Aj:=@List.length_nil
abbrev Ak:=@Nat.le_trans
abbrev Al:=@List.cons_append
abbrev Am:=@Decidable.byContradiction
abbrev An:=@List.drop_eq_getElem_cons
abbrev Ao:=@List.nil_append
abbrev Ap:=@List.getElem?_eq_none
abbrev Ar:=@List.take_of_length_le
abbrev At:=@List.flatten_cons
abbrev Au:=@List.getElem?_append_right
abbrev Av:=@UInt8.toNat_inj
theorem Ax(h:P:=by (first|(simp only [I',F',H'];done)|(simp only [I',F',H'];exact rfl))):P:=h
theorem Ay(h:P:=by ((try dsimp only);(first|exact⟨q0,q4⟩|exact⟨(hal 0 _).trans q0,(hal 4 _).trans q4⟩|exact⟨(hap 0).trans q0,(hap 4).trans q4⟩|exact⟨(hst 0).trans q0,(hst 4).trans q4⟩))):P:=h
theorem A6(h:P:=by ((try dsimp only);(first|exact⟨c0,c1⟩|exact⟨k0,k1⟩|exact⟨s0,s1⟩))):P:=h
theorem A9(h:P:=by rintro a m hm ⟨ha1,ha2,ha3,ha4⟩;exact OkW.up (H.t _ _ _ lo ⟨h0,ha1,ha2,ha4⟩) hm):P:=h
theorem Bb(h:P:=by rename_i c;rw [if_pos c] at h2;rw [if_pos c,if_pos c,e];exact nM hb ha' h1 h2):P:=h
theorem Bc(h:P:=by exact absurd H3.out.eq H3.out.ne):P:=h
theorem Be(h:P:=by exact IG s l0 r (i+1) _ l p m h Ee Cf (hset _ _ _ h3 Cf) h4 h5):P:=h
theorem Bg(h:P:=by exact .inr ⟨g,cap,cur,h1,h2,hf.at_ (fun m=>hX g m (by rw [h1];rfl)) h3,h4⟩):P:=h
theorem Bh(h:P:=by intro b hb' e;simp at hb';have:=HTL.out b e;omega):P:=h
theorem Bi(h:P:=by rename_i b2 hb2;simp at hi;subst hi;exact (hh.ex.own.lt _ hb2).1):P:=h
theorem Bj(h:P:=by  rw [if_neg Cf] at HB;omega):P:=h
theorem Bm(h:P:=by ((try dsimp only);(first|exact⟨n0,yt⟩|exact⟨s0,s1⟩))):P:=h
theorem Bq(h:P:=by rename_i v;rw [if_neg v] at hr;simp at hr):P:=h
theorem Bt(h:P:=by simp [Array.getElem?_eq_none h] at hb):P:=h
theorem Bu(h:P:=by subst e;cases hd;omega):P:=h
theorem Bv(h:P:=by exact RG s l0 r _ _ e a h):P:=h
theorem Bx(h:P:=by rw [if_pos h];exact h1 h):P:=h
theorem Bz(h:P:=by rw [if_neg h];exact h2 h):P:=h
theorem Cf(h:P:=by omega):P:=h
theorem Cg(h:P:=by have:=HX.out.2;simp;omega):P:=h
theorem Ch(h:P:=by decide):P:=h
theorem Cj(h:P:=by rw [HZ.out];simp [TQ0,tx,tki,bQ1,VQ0]):P:=h
theorem Cm(h:P:=by simp):P:=h
theorem Cn(h:P:=by simp;omega):P:=h
theorem Co(h:P:=by have hq:=iE H5.out.rd ⟨H5.out.fr.cell (a:=⟨B,0,none⟩) Cg HX.out.1,HX.out.2⟩ (((n:Nat):Int)+1);rw [h3] at hq;exact hq):P:=h
theorem Cp(h:P:=by simp [aQ1]):P:=h
theorem Cq(h:P:=by simp;have:=HB.out.2.2.2.2;omega):P:=h
theorem Cr(h:P:=by have:=HL.out;omega):P:=h
theorem Cs(h:P:=by simp [IntKind.wrap,IntKind.bits,IntKind.signed];omega):P:=h
theorem Ct(h:P:=by rfl):P:=h
theorem Cu(h:P:=by unfold maxLen;omega):P:=h
theorem Cv(h:P:=by have:=HL.out;simp;omega):P:=h
theorem Cw(h:P:=by simp only [rk] at hk ⊢;omega):P:=h
theorem Cx(h:P:=by intro e;have:=congrArg List.length e;simp only [V',Aj] at this;omega):P:=h
theorem Cy(h:P:=by first|exact DA rfl (Cf)|exact SF Cf):P:=h
theorem Cz(h:P:=by simp [Value.ownBlock]):P:=h
theorem C3(h:P:=by (try simp);omega):P:=h
theorem C4(h:P:=by cases h):P:=h
theorem C5(h:P:=by have hq:=iE H7.out.rd ⟨H7.out.fr.cell (a:=⟨B,0,none⟩) Cg HX.out.1,HX.out.2⟩ ((across E.toEnv (((n:Nat):Int)+1)).1);rw [h5] at hq;exact hq):P:=h
theorem C6(h:P:=by simp only [rk];omega):P:=h
theorem C7(h:P:=by have:=HB.out.2.2.2.2;omega):P:=h
theorem C8(h:P:=by have:=H2.out.rd.at_;have:=H2.out.rd.lie.small;omega):P:=h
theorem C9(h:P:=by simp at hk;simp [hk]):P:=h
theorem Da(h:P:=by have:=HL.out;have:=HJ.out;omega):P:=h
theorem Db(h:P:=by assumption):P:=h
theorem Dc(h:P:=by simpa using h):P:=h
theorem Dd(h:P:=by rw [show ((((n:Nat):Int)+1))=((n+1:Nat):Int) from Cf];exact h4):P:=h
theorem De(h:P:=by have:=HL.out;simp only [O',At] at this;omega):P:=h
theorem Df(h:P:=by simp at hk;omega):P:=h
theorem Dg(h:P:=by have:=HLN.out;simp only [O',At,List.flatten_nil,List.append_nil] at this ⊢;omega):P:=h
theorem Dh(h:P:=by rw [HZ.out];simp [TQ0,tx,tki,bQ1,VQ0,hq]):P:=h
theorem Di(h:P:=by rw [show ((m8:Int)+1)=((m8+1:Nat):Int) from Cf];exact h3):P:=h
theorem Dj(h:P:=by rw [hx];simp):P:=h
theorem Dk(h:P:=by first|(simp;done)|(simp;omega)):P:=h
theorem Dl(h:P:=by first|exact C' _|exact⟨Ch,C' _⟩|exact⟨Db,C' _⟩):P:=h
theorem Dn(h:P:=by first|(simp_all [mE,alB,bat,GL];done)|(simp_all [mE,alB,bat,GL];omega)):P:=h
theorem Do(h:P:=by rw [hgrow.block b Cf (fun e=>hne e.symm)];exact hB.block b hb):P:=h
theorem Dp(h:P:=by rw [hsz];exact hp):P:=h
theorem Dq(h:P:=by rw [h.out.eq,e];rfl):P:=h
theorem Dr(h:P:=by rw [HZ.out];simp [TQ0,tx,tki,bQ1,VQ0,h0,h2]):P:=h
theorem Ds(h:P:=by have:=HST.out;rw [HF.out] at this;exact this):P:=h
theorem Dt(h:P:=by rw [hE x Cf Cf];simp only [eF];rw [if_neg Cf,if_pos Cf]):P:=h
theorem Du(h:P:=by rw [hE x Cf Cf];simp only [eF];rw [if_neg Cf,if_neg Cf]):P:=h
theorem Dv(h:P:=by show k+1<=_;omega):P:=h
theorem Dw(h:P:=by have:=HJ.out.1;omega):P:=h
theorem Dx(h:P:=by simp [ByteArray.size]):P:=h
theorem Dy(h:P:=by rw [HZ.out];simp [TQ0,tx,tki,bQ1,VQ0,h0]):P:=h
theorem Dz(h:P:=by first|assumption|rfl):P:=h
theorem Ea(h:P:=by rw [<- Htr.out,show l.length - tx=0 from Cf];rfl):P:=h
theorem Eb(h:P:=by simp [Value.oneCell']):P:=h
theorem Ec(h:P:=by simp at hi;omega):P:=h
theorem Ed(h:P:=by rw [e];rfl):P:=h
theorem Ee(h:P:=by simpa using h1):P:=h
theorem Ef(h:P:=by have:=(hown.lt _ e.symm).1;omega):P:=h
theorem Eh(h:P:=by have:=H10.out.rd.at_;have:=H10.out.rd.lie.small;omega):P:=h
theorem Ei(h:P:=by unfold leaf at h;rw [if_pos rfl] at h;cases h;exact⟨Db,trivial⟩):P:=h
theorem Ej(h:P:=by first|exact J' _ _|exact (J' _ _).drew):P:=h
theorem Ek(h:P:=by simpa [ByteArray.size] using h):P:=h
theorem Em(h:P:=by rw [HZ.out];simp [TQ0,tx,tki,bQ1,VQ0,hq,xE,jQ1,List.range,List.range.loop]):P:=h
theorem En(h:P:=by first|decide|assumption):P:=h
theorem Eo(h:P:=by have:=HH.out.2;unfold WQ0 at this;rw [if_neg h0] at this;simpa using this):P:=h
theorem Ep(h:P:=by rw [hw6];exact HS5.out):P:=h
theorem Eq(h:P:=by rw [hw6];exact HK5.out):P:=h
theorem Er(h:P:=by simp only [gF] at hc;simp only [cnt,EB];omega):P:=h
theorem Es(h:P:=by have:=h.at_;have:=h.lie.small;omega):P:=h
theorem Et(h:P:=by rw [HF.out.2.2.2.2];show out.length<=_;omega):P:=h
theorem Ew(h:P:=by simpa using congrArg Prod.fst h2):P:=h
theorem Ex(h:P:=by simpa using congrArg Prod.snd h2):P:=h
theorem Ey(h:P:=by rw [show (((n8:Nat):Int)+1)=((n8+1:Nat):Int) from Cf];exact h4):P:=h
theorem Ez(h:P:=by have:=H.lo;omega):P:=h
theorem E9(h:P:=by rw [show (((n:Nat):Int)+1)=((n+1:Nat):Int) from Cf];exact h7):P:=h
theorem Fa(h:P:=by rw [show (((n:Nat):Int)+1)=((n+1:Nat):Int) from Cf];exact h6):P:=h
theorem Fb(h:P:=by simp only [gF] at hx;simp only [gF];omega):P:=h
theorem Fc(h:P:=by have hq:=bH H3.out.rd (((n:Nat):Int)+1);rw [h2] at hq;exact hq):P:=h
theorem Fg(h:P:=by simp [results,Tryz.results36]):P:=h
theorem Fh(h:P:=by simp at hi;subst hi;have:=HR.out.lt;omega):P:=h
theorem Fi(h:P:=by rw [hh.eq];exact⟨rfl,⟨g',q1.unguard HRB.out q2⟩,q2⟩):P:=h
theorem Fj(h:P:=by simp only [gF];omega):P:=h
theorem Fp(h:P:=by show lb < _;omega):P:=h
theorem Fq(h:P:=by rw [hy];simp):P:=h
theorem Fs(h:P:=by simp [ByteArray.size];omega):P:=h
theorem Ft(h:P:=by intro e;have:=congrArg List.length e;simp at this;omega):P:=h
theorem Fu(h:P:=by rw [HW.out,List.drop_take];simp [ByteArray.extract_mk]):P:=h
theorem Fv(h:P:=by have:=H28.out.rd.at_;have:=H28.out.rd.lie.small;omega):P:=h
theorem Fw(h:P:=by have:=H13.out.rd.at_;have:=H13.out.rd.lie.small;omega):P:=h
theorem Fx(h:P:=by simpa using m):P:=h
theorem Fz(h:P:=by have:=hXm i hi;omega):P:=h
theorem F3(h:P:=by rw [HPH.out];exact H11.out):P:=h
theorem F4(h:P:=by rw [Int.pow_succ];rcases hb with rfl|rfl <;> omega):P:=h
theorem F5(h:P:=by simp at hi;simp [hi]):P:=h
theorem F6(h:P:=by have:=HN.out;simp;omega):P:=h
theorem F8(h:P:=by show lb < _;have:=HEN.out;omega):P:=h
theorem F9(h:P:=by simpa using h2):P:=h
theorem Ga(h:P:=by cases h;exact hs):P:=h
theorem Gb(h:P:=by rw [<- Htr.out,BL _ _ _ hct hlt]):P:=h
theorem Gc(h:P:=by rw [tC hit3,hpos0];omega):P:=h
theorem Gd(h:P:=by have hq:=cG H0.out.rd i;rw [h1] at hq;exact hq):P:=h
theorem Ge(h:P:=by have hq:=rJ H35.out.rd;rw [h36] at hq;exact hq):P:=h
theorem Gf(h:P:=by have hq:=fI H29.out.rd;rw [h30] at hq;exact hq):P:=h
theorem Gg(h:P:=by unfold FD;rw [hg,hs];rfl):P:=h
theorem Gh(h:P:=by have:=HLN.out;simp only [O'] at this ⊢;omega):P:=h
theorem Gk(h:P:=by simp only [gF] at hx;simp only [gF,EB];omega):P:=h
theorem Gl(h:P:=by have:=hb.1;simp;omega):P:=h
theorem Gq(h:P:=by have:=HT.out.ne.2.2.2.2.1;show b9≠Bo;omega):P:=h
theorem Gt(h:P:=by rw [HZ.out];simp [TQ0,tx,tki,bQ1,VQ0,nlT]):P:=h
theorem Gu(h:P:=by rw [hk];simp):P:=h
theorem Gw(h:P:=by rw [<- Htr.out,cL _ _ _ hct]):P:=h
theorem Gx(h:P:=by decide +kernel):P:=h
theorem Gz(h:P:=by have:=HB.out.2.2.2.1;omega):P:=h
theorem G7(h:P:=by rw [HZ.out];simp [TQ0,tx,tki,bQ1,VQ0,hu]):P:=h
theorem G8(h:P:=by show w.heap.size<=w.heap.size+1+1;omega):P:=h
theorem G9(h:P:=by rw [heap_setCell_same w c 1 _ _ _ h1];rfl):P:=h
theorem Ha(h:P:=by simp at h):P:=h
theorem Hb(h:P:=by simpa using Fr.set (a:=⟨c,3,none⟩)):P:=h
theorem Hc(h:P:=by simp at hk;subst hk;have:=HB.out.2;omega):P:=h
theorem Hd(h:P:=by cases hq):P:=h
theorem He(h:P:=by rw [e] at h1;exact absurd h1 Ch):P:=h
theorem Hf(h:P:=by rw [List.eq_of_mem_replicate hx];decide):P:=h
theorem Hg(h:P:=by simpa using hne):P:=h
theorem Hh(h:P:=by simp at hb';subst hb';exact HO.out.sep):P:=h
theorem Hi(h:P:=by have:=HN.out;omega):P:=h
theorem Hj(h:P:=by unfold Oper.wp;rw [hx];exact hK _ _ hk):P:=h
theorem Hk(h:P:=by have:=HNN.out;have:=HK.out.len;omega):P:=h
theorem Hl(h:P:=by cases e;exact h):P:=h
theorem Hm(h:P:=by simp at m;omega):P:=h
theorem Ho(h:P:=by simpa using hpl):P:=h
theorem Hq(h:P:=by simp only [Fo.size];omega):P:=h
theorem Ht(h:P:=by first|assumption|exact fB Ch):P:=h
theorem Hu(h:P:=by rw [eJ hb];show q.k - a < b - a;omega):P:=h
theorem Hw(h:P:=by simp [YD,hk]):P:=h
theorem Hx(h:P:=by simpa using h0):P:=h
theorem Hy(h:P:=by rw [tC hit2,hpos0];omega):P:=h
theorem Hz(h:P:=by rw [HZ.out,if_pos Cf,h1];rfl):P:=h
theorem Ia(h:P:=by unfold AC;rw [d1,d2,d3,d4,d5,d8];rfl):P:=h
theorem Ib(h:P:=by simpa using hlt0):P:=h
theorem Ic(h:P:=by obtain⟨k,w,f,n,ks⟩:=t;exact h.2):P:=h
theorem Ie(h:P:=by rcases hb with rfl|rfl <;> omega):P:=h
theorem Ig(h:P:=by cases h;exact Nat.le_of_eq HEN.out):P:=h
theorem Ih(h:P:=by have:=HNN.out.2;omega):P:=h
theorem Ii(h:P:=by simp only [vF];omega):P:=h
theorem Ij(h:P:=by have:=fA.len h;simpa using this):P:=h
theorem Ik(h:P:=by have:=hb.2.2.1;simpa using this):P:=h
theorem Im(h:P:=by have:=(hownr.lt _ e.symm).2;omega):P:=h
theorem Io(h:P:=by rw [O'];simp only [Ab,Aj];omega):P:=h
theorem Ip(h:P:=by rw [hg];exact hs):P:=h
theorem Iq(h:P:=by simpa using hF.cell Cm c0):P:=h
theorem Ir(h:P:=by unfold WQ0;rw [if_neg h0];simp):P:=h
theorem Is(h:P:=by show q.k+1<=_;omega):P:=h
theorem Iu(h:P:=by have:=hb.size;omega):P:=h
theorem Iv(h:P:=by have:=hB.size;omega):P:=h
theorem Ix(h:P:=by have:=HL.out;simpa using this):P:=h
theorem Iy(h:P:=by show a<=q.k+1;omega):P:=h
theorem Iz(h:P:=by split <;> assumption):P:=h
theorem I0(h:P:=by simp only [];omega):P:=h
theorem I1(h:P:=by rw [hsz];unfold maxLen;omega):P:=h
theorem I2(h:P:=by have:=HX.out.2;omega):P:=h
theorem I3(h:P:=by rw [HP.out];rfl):P:=h
theorem I5(h:P:=by rw [HO.out];rfl):P:=h
theorem I6(h:P:=by have:=HJ.out;omega):P:=h
theorem I7(h:P:=by rw [hc];simp):P:=h
theorem I8(h:P:=by rw [hd];simp):P:=h
theorem I9(h:P:=by have:=hx.2.1;omega):P:=h
theorem Ja(h:P:=by have:=hb.2.1;omega):P:=h
theorem Jb(h:P:=by have:=hX b m;omega):P:=h
theorem Jc(h:P:=by rw [<- HD.out];rfl):P:=h
theorem Jd(h:P:=by rw [hi];rfl):P:=h
theorem Je(h:P:=by rw [h.out.eq,e]):P:=h
theorem Jf(h:P:=by show k<=_;omega):P:=h
theorem Jg(h:P:=by rw [hz2];omega):P:=h
theorem Jh(h:P:=by simp [zer]):P:=h
theorem Ji(h:P:=by simp at hx;omega):P:=h
theorem Jj(h:P:=by rw [h3];rfl):P:=h
theorem Jk(h:P:=by rw [V'];omega):P:=h
end
section
structure Tk where
 kind:UInt8
 fr:Nat
 to:Nat
structure Env where
 s:List UInt8
 l:List Tk
 pair:List Int
inductive Tr where
 | mk (kind:UInt8) (word:Int) (fr to:Nat) (kids:List Tr):Tr
def Tr.kind:Tr->UInt8|.mk k _ _ _ _=>k
def Tr.word:Tr->Int|.mk _ w _ _ _=>w
def Tr.fr:Tr->Nat|.mk _ _ f _ _=>f
def Tr.to:Tr->Nat|.mk _ _ _ t _=>t
def Tr.kids:Tr->List Tr|.mk _ _ _ _ ks=>ks
inductive R (α:Type) where
 | ok (a:α) (at':Nat):R α
 | bad (k:Nat):R α
 | out:R α
def R.andThen {α β:Type}:R α->(α->Nat->R β)->R β
 | .ok a n,f=>f a n
 | .bad k,_=>.bad k
 | .out,_=>.out
def Env.word (E:Env) (i:Int):List UInt8 :=
 if i < 0 then [] else match E.l[i.toNat]? with
  | none=>[]
  | some t=>if t.kind=9 then [59] else if t.kind=8∨t.kind=2 then (E.s.take t.to).drop t.fr else []
def Env.kind (E:Env) (i:Int):UInt8:=if i < 0 then 0 else match E.l[i.toNat]? with|none=>0|some t=>t.kind
def Env.named (E:Env) (i:Int):Bool:=E.kind i==1
def Env.quoted (E:Env) (i:Int):Bool:=E.kind i==7
def Env.literal (E:Env) (i:Int):Bool:=decide (3<=(E.kind i).toNat)&&decide ((E.kind i).toNat<=7)
def Env.ended (E:Env) (n:Nat):Bool:=n==E.l.length
def Env.is (E:Env) (i:Nat) (w:List UInt8):Bool:=E.word i==w
inductive One where
 | expr|param|tparam|typ|field|elem|element|importSpec|constSpec|typeSpec|valueSpec|call
inductive F where
 | file|fileImports (name:Tr) (acc:List Tr)|fileDecls (name imports:Tr) (acc:List Tr)
 | group|one (o:One)|fn|signature|params|tparams|names|namesMore (acc:List Tr)|union|unionMore (acc:List Tr)
 | typ|row (fr:Nat)|members (kind:UInt8) (o:One)|typeName
 | exprs|exprsMore (acc:List Tr)|types|typesMore (acc:List Tr)|expr|binary (least:Nat)|binMore (least fr:Nat) (x:Tr)|unary|operand|primary|primMore (fr:Nat) (x:Tr)
 | dot (fr:Nat) (x:Tr)|call (fr:Nat) (x:Tr)|index (fr:Nat) (x:Tr)|indexMore (fr:Nat) (x:Tr) (acc:List Tr)|slice (fr:Nat) (x lo:Tr)|elements|value
 | stmts|stmtsMore (acc:List Tr)|block|stmt|declared|started|returned|branch|simple|rest (fr:Nat) (left:Tr)
 | ifs|switches|clauses (kind:UInt8) (sort:Nat)|clausesMore (kind:UInt8) (sort:Nat) (acc:List Tr)|cased (sort:Nat)|selects|fors|overall (fr:Nat) (word:Int) (left:Tr)
structure AB where
 t:F->Nat->Bool->R Tr
 l:List UInt8->List UInt8->One->List Tr->Int->Nat->Bool->R (List Tr × Int)
def vA (kind:UInt8) (at':Nat):Tr:=.mk kind (-1) at' at' []
def xC (kind:UInt8) (ks:List Tr) (at':Nat):Tr :=
 match ks with
 | []=>vA kind at'
 | k::r=>.mk kind (-1) k.fr ((k::r).getLast Cm).to (k::r)
def want (E:Env) (w:List UInt8) (n:Nat):R Unit:=if E.is n w then .ok () (n+1) else .bad n
def leaf (kind:UInt8) (ok:Bool) (n:Nat):R Tr:=if ok then .ok (.mk kind n n (n+1) []) (n+1) else .bad n
def LC (E:Env) (n:Nat):R Tr:=leaf 26 (E.named n) n
def TH (E:Env) (n:Nat):R Tr:=leaf 27 (E.quoted n) n
def PB (E:Env) (w:List UInt8) (n:Nat):Nat:=if E.is n w then n+1 else n
def LF (E:Env) (S:AB) (mark shut:List UInt8) (o:One) (acc:List Tr) (word:Int) (n:Nat) (tight:Bool):R (List Tr × Int) :=
 if E.is n shut then .ok (acc,word) n
 else
  let first:R (Tr × Int):=match o with
   | .call=>if 0<=word then .bad n else (S.t .expr n tight).andThen fun x n1=>if E.is n1 [46,46,46] then .ok (x,(n1:Int)) (n1+1) else .ok (x,word) n1
   | o=>(S.t (.one o) n tight).andThen fun x n1=>.ok (x,word) n1
  first.andThen fun p n1 =>
   if E.is n1 shut then S.l mark shut o (acc++[p.1]) p.2 n1 tight
   else (want E mark n1).andThen fun _ n2=>S.l mark shut o (acc++[p.1]) p.2 n2 tight
def rows (E:Env) (S:AB) (open' mark shut:List UInt8) (o:One) (n:Nat) (tight:Bool):R (List Tr × Int) :=
 (want E open' n).andThen fun _ n1=>S.l mark shut o [] (-1) n1 tight
def DD (w:List UInt8):Nat :=
 if w=[124,124] then 1 else if w=[38,38] then 2
 else if w=[61,61]∨w=[33,61]∨w=[60]∨w=[60,61]∨w=[62]∨w=[62,61] then 3
 else if w=[43]∨w=[45]∨w=[124]∨w=[94] then 4
 else if w=[42]∨w=[47]∨w=[37]∨w=[60,60]∨w=[62,62]∨w=[38]∨w=[38,94] then 5 else 0
def across (E:Env) (i:Int):Int × Bool :=
 if E.word i=[91]/\E.pair.getD i.toNat 0≠i+1 then (E.pair.getD i.toNat 0+1,true) else (0,false)
def bare (E:Env) (n:Nat):Bool :=
 if E.named n=false then true
 else if E.is (n+1) [44]||E.is (n+1) [41]||E.is (n+1) [46] then true
 else (across E (n+1)).2&&(E.word (across E (n+1)).1==[44]||E.word (across E (n+1)).1==[41])
def rK (E:Env) (i:Int):Bool:=E.quoted i||E.word i==[59]||E.word i==[125]
def embedded (E:Env) (n:Nat):Bool :=
 if E.named n=false then false else rK E (n+1)||E.is (n+1) [46]||((across E (n+1)).2&&rK E (across E (n+1)).1)
def generic (E:Env) (n:Nat):Bool :=
 if E.is n [91]=false||E.named (n+1)=false then false
 else if E.is (n+2) [44]||E.is (n+2) [126]||E.is (n+2) [105,110,116,101,114,102,97,99,101]||E.is (n+2) [102,117,110,99]||E.is (n+2) [109,97,112]||E.is (n+2) [99,104,97,110]||E.is (n+2) [115,116,114,117,99,116] then true
 else E.named (n+2)
def zH (E:Env) (n:Nat):R Tr:=if E.quoted n then TH E n else .ok (vA 0 n) n
def quiet (E:Env) (n:Nat):Bool:=E.is n [59]||E.is n [125]||E.ended n
def plain (x:Tr):Bool:=x.kind==26||(x.kind==29&&match x.kids with|k::_=>k.kind==26|[]=>false)
def filled (tight:Bool) (x:Tr):Bool :=
 if x.kind=41∨x.kind=42∨x.kind=43∨x.kind=44∨x.kind=47 then true
 else
  let y:=if x.kind=30 then (match x.kids with|k::_=>k|[]=>x) else x
  !tight&&plain y
def assigns (w:List UInt8):Bool:=[[61],[58,61],[43,61],[45,61],[42,61],[47,61],[37,61],[38,61],[124,61],[94,61],[60,60,61],[62,62,61],[38,94,61]].contains w
section
variable (E:Env) (S:AB)
def EF (n:Nat) (g:Bool):R Tr :=
 (want E [112,97,99,107,97,103,101] n).andThen fun _ n1=>(LC E n1).andThen fun name n2=>(want E [59] n2).andThen fun _ n3=>S.t (.fileImports name []) n3 g
def lB (name:Tr) (acc:List Tr) (n:Nat) (g:Bool):R Tr :=
 if E.is n [105,109,112,111,114,116] then (S.t .group n g).andThen fun x n1=>(want E [59] n1).andThen fun _ n2=>S.t (.fileImports name (acc++[x])) n2 g
 else S.t (.fileDecls name (xC 2 acc n) []) n g
def eC (name imports:Tr) (acc:List Tr) (n:Nat) (g:Bool):R Tr :=
 if E.is n [99,111,110,115,116]||E.is n [118,97,114]||E.is n [116,121,112,101] then (S.t .group n g).andThen fun x n1=>(want E [59] n1).andThen fun _ n2=>S.t (.fileDecls name imports (acc++[x])) n2 g
 else if E.is n [102,117,110,99] then (S.t .fn n g).andThen fun x n1=>(want E [59] n1).andThen fun _ n2=>S.t (.fileDecls name imports (acc++[x])) n2 g
 else .ok (.mk 1 (-1) 0 n [name,imports,xC 2 acc n]) n
def EN (n:Nat):One:=if E.is n [105,109,112,111,114,116] then .importSpec else if E.is n [99,111,110,115,116] then .constSpec else if E.is n [116,121,112,101] then .typeSpec else .valueSpec
def CE (n:Nat) (g:Bool):R Tr :=
 if E.is (n+1) [40] then
  (rows E S [40] [59] [41] (EN E n) (n+1) g).andThen fun p n1=>(want E [41] n1).andThen fun _ n2=>.ok (.mk 4 n n n2 p.1) n2
 else (S.t (.one (EN E n)) (n+1) g).andThen fun x n1=>.ok (.mk 3 n n n1 [x]) n1
def uB (n:Nat):R Tr :=
 if E.is n [46] then (TH E (n+1)).andThen fun p n1=>.ok (.mk 5 n n n1 [vA 0 n,p]) n1
 else if E.named n then (LC E n).andThen fun x n1=>(TH E n1).andThen fun p n2=>.ok (.mk 5 (-1) n n2 [x,p]) n2
 else (TH E n).andThen fun p n1=>.ok (.mk 5 (-1) n n1 [vA 0 n,p]) n1
def mC (must:Bool) (n:Nat) (g:Bool):R Tr :=
 if !must&&!(E.is n [61]) then .ok (vA 0 n) n else (want E [61] n).andThen fun _ n1=>S.t .exprs n1 g
def LB (n:Nat) (g:Bool):R Tr :=
 (S.t .names n g).andThen fun names n1 =>
  if E.is n1 [59]||E.is n1 [41]||E.ended n1 then .ok (.mk 6 (-1) n n1 [names,vA 0 n1,vA 0 n1]) n1
  else if E.is n1 [61] then (mC E S true n1 g).andThen fun v n2=>.ok (.mk 6 (-1) n n2 [names,vA 0 n1,v]) n2
  else (S.t .typ n1 g).andThen fun t n2=>(mC E S true n2 g).andThen fun v n3=>.ok (.mk 6 (-1) n n3 [names,t,v]) n3
def IB (n:Nat) (g:Bool):R Tr :=
 (S.t .names n g).andThen fun names n1 =>
  if E.is n1 [61] then (mC E S false n1 g).andThen fun v n2=>.ok (.mk 6 (-1) n n2 [names,vA 0 n1,v]) n2
  else (S.t .typ n1 g).andThen fun t n2=>(mC E S false n2 g).andThen fun v n3=>.ok (.mk 6 (-1) n n3 [names,t,v]) n3
def rC (n:Nat) (g:Bool):R Tr :=
 (LC E n).andThen fun name n1 =>
  (if generic E n1 then S.t .tparams n1 g else .ok (vA 0 n1) n1).andThen fun params n2 =>
   (S.t .typ (PB E [61] n2) g).andThen fun t n3=>.ok (.mk 7 (if E.is n2 [61] then (n2:Int) else -1) n n3 [name,params,t]) n3
def fnB (n:Nat) (g:Bool):R Tr :=
 (want E [102,117,110,99] n).andThen fun _ n1 =>
  (if E.is n1 [40] then S.t .params n1 g else .ok (vA 0 n1) n1).andThen fun recv n2 =>
   (LC E n2).andThen fun name n3 =>
    (if E.is n3 [91] then S.t .tparams n3 g else .ok (vA 0 n3) n3).andThen fun tp n4 =>
     (S.t .signature n4 g).andThen fun sig n5 =>
      (if E.is n5 [123] then S.t .block n5 g else .ok (vA 0 n5) n5).andThen fun body n6=>.ok (.mk 8 (-1) n n6 [recv,name,tp,sig,body]) n6
def GO (n:Nat):Bool:=E.is n [91]||E.is n [42]||E.is n [115,116,114,117,99,116]||E.is n [109,97,112]||E.is n [99,104,97,110]||E.is n [105,110,116,101,114,102,97,99,101]||E.is n [102,117,110,99]||E.is n [60,45]
def NB (n:Nat) (g:Bool):R Tr :=
 (S.t .params n g).andThen fun a n1 =>
  (if E.is n1 [40] then S.t .params n1 g else if GO E n1||E.named n1 then S.t .typ n1 g else .ok (vA 0 n1) n1).andThen fun b n2=>.ok (.mk 9 (-1) n n2 [a,b]) n2
def XD (n:Nat) (g:Bool):R Tr :=
 (rows E S [40] [44] [41] .param n g).andThen fun p n1=>(want E [41] n1).andThen fun _ n2=>.ok (.mk 14 (-1) n n2 p.1) n2
def NE (n:Nat) (g:Bool):R Tr :=
 (if bare E n then .ok (vA 0 n) n else LC E n).andThen fun name n1 =>
  (S.t .typ (PB E [46,46,46] n1) g).andThen fun t n2=>.ok (.mk 15 (if E.is n1 [46,46,46] then (n1:Int) else -1) n n2 [name,t]) n2
def XC (n:Nat) (g:Bool):R Tr :=
 if E.is (n+1) [93] then .bad (n+1)
 else (rows E S [91] [44] [93] .tparam n g).andThen fun p n1=>(want E [93] n1).andThen fun _ n2=>.ok (.mk 16 (-1) n n2 p.1) n2
def RD (n:Nat) (g:Bool):R Tr :=
 (S.t .names n g).andThen fun names n1=>(S.t .union n1 g).andThen fun u n2=>.ok (.mk 17 (-1) n n2 [names,u]) n2
def OD (n:Nat) (g:Bool):R Tr:=(LC E n).andThen fun x n1=>S.t (.namesMore [x]) n1 g
def XB (acc:List Tr) (n:Nat) (g:Bool):R Tr :=
 if E.is n [44] then (LC E (n+1)).andThen fun x n1=>S.t (.namesMore (acc++[x])) n1 g else .ok (xC 10 acc n) n
def nH (n:Nat) (g:Bool):R Tr :=
 if E.is n [126] then (S.t .typ (n+1) g).andThen fun t n1=>.ok (.mk 19 (-1) n n1 [t]) n1 else S.t .typ n g
def jB (acc:List Tr) (n:Nat) (g:Bool):R Tr :=
 (nH E S n g).andThen fun x n1=>if E.is n1 [124] then S.t (.unionMore (acc++[x])) (n1+1) g else .ok (xC 18 (acc++[x]) n1) n1
def xE (kind:UInt8) (word:Int) (fr:Nat) (pre:List Tr) (n:Nat):R Tr :=
 (S.t .typ n false).andThen fun t n1=>.ok (.mk kind word fr n1 (pre++[t])) n1
def tI (n:Nat):R Tr :=
 if E.named n then S.t .typeName n false
 else if E.is n [42] then xE S 35 (-1) n [] (n+1)
 else if E.is n [40] then (S.t .typ (n+1) false).andThen fun t n1=>(want E [41] n1).andThen fun _ n2=>.ok (.mk 28 (-1) n n2 [t]) n2
 else if E.is n [91] then S.t (.row n) (n+1) false
 else if E.is n [109,97,112] then (want E [91] (n+1)).andThen fun _ n1=>(S.t .typ n1 false).andThen fun k n2=>(want E [93] n2).andThen fun _ n3=>xE S 44 (-1) n [k] n3
 else if E.is n [99,104,97,110] then xE S 45 n n [] (PB E [60,45] (n+1))
 else if E.is n [60,45] then (want E [99,104,97,110] (n+1)).andThen fun _ n1=>xE S 45 n n [] n1
 else if E.is n [102,117,110,99] then (S.t .signature (n+1) false).andThen fun s n1=>.ok (.mk 46 (-1) n n1 [s]) n1
 else if E.is n [115,116,114,117,99,116] then (S.t (.members 20 .field) (n+1) false).andThen fun m n1=>.ok (.mk 47 (-1) n n1 [m]) n1
 else if E.is n [105,110,116,101,114,102,97,99,101] then (S.t (.members 23 .elem) (n+1) false).andThen fun m n1=>.ok (.mk 48 (-1) n n1 [m]) n1
 else .bad n
def NJ (fr n:Nat):R Tr :=
 if E.is n [93] then xE S 43 (-1) fr [] (n+1)
 else if E.is n [46,46,46] then (want E [93] (n+1)).andThen fun _ n1=>xE S 42 (-1) fr [] n1
 else (S.t .expr n false).andThen fun x n1=>(want E [93] n1).andThen fun _ n2=>xE S 41 (-1) fr [x] n2
def CB (kind:UInt8) (o:One) (n:Nat) (g:Bool):R Tr :=
 (rows E S [123] [59] [125] o n g).andThen fun p n1=>(want E [125] n1).andThen fun _ n2=>.ok (xC kind p.1 n1) n2
def nC (n:Nat) (g:Bool):R Tr :=
 (LC E n).andThen fun x n1 =>
  (if E.is n1 [46] then (LC E (n1+1)).andThen fun y n2=>.ok (.mk 29 (-1) n n2 [x,y]) n2 else .ok x n1).andThen fun x n2 =>
   if E.is n2 [91] then
    if E.is (n2+1) [93] then .bad (n2+1)
    else (rows E S [91] [44] [93] .typ n2 g).andThen fun p n3=>(want E [93] n3).andThen fun _ n4=>.ok (.mk 30 (-1) n n4 [x,xC 11 p.1 n3]) n4
   else .ok x n2
def WE (n:Nat) (g:Bool):R Tr :=
 if E.is n [42] then
  if E.named (n+1) then (S.t .typeName (n+1) g).andThen fun t n1=>(zH E n1).andThen fun q n2=>.ok (.mk 22 (-1) n n2 [.mk 35 (-1) n n1 [t],q]) n2
  else .bad (n+1)
 else if embedded E n then (S.t .typeName n g).andThen fun t n1=>(zH E n1).andThen fun q n2=>.ok (.mk 22 (-1) n n2 [t,q]) n2
 else (S.t .names n g).andThen fun names n1=>(S.t .typ n1 g).andThen fun t n2=>(zH E n2).andThen fun q n3=>.ok (.mk 21 (-1) n n3 [names,t,q]) n3
def kG (n:Nat) (g:Bool):R Tr :=
 if E.named n&&E.is (n+1) [40] then (LC E n).andThen fun x n1=>(S.t .signature n1 g).andThen fun s n2=>.ok (.mk 24 (-1) n n2 [x,s]) n2
 else S.t .union n g
def ZB (acc:List Tr) (n:Nat) (g:Bool):R Tr :=
 if E.is n [44] then (S.t .expr (n+1) g).andThen fun x n1=>S.t (.exprsMore (acc++[x])) n1 g else .ok (xC 11 acc n) n
def cC (acc:List Tr) (n:Nat) (g:Bool):R Tr :=
 if E.is n [44] then (S.t .typ (n+1) g).andThen fun x n1=>S.t (.typesMore (acc++[x])) n1 g else .ok (xC 11 acc n) n
def uD (least fr:Nat) (x:Tr) (n:Nat) (g:Bool):R Tr :=
 if DD (E.word n) < least then .ok x n
 else (S.t (.binary (DD (E.word n)+1)) (n+1) g).andThen fun y n1=>S.t (.binMore least fr (.mk 37 n fr n1 [x,y])) n1 g
def FE (n:Nat) (g:Bool):R Tr :=
 if E.is n [60,45] then
  if E.is (n+1) [99,104,97,110] then S.t .primary n g else (S.t .unary (n+1) g).andThen fun x n1=>.ok (.mk 36 n n n1 [x]) n1
 else if E.is n [43]||E.is n [45]||E.is n [33]||E.is n [94]||E.is n [38] then (S.t .unary (n+1) g).andThen fun x n1=>.ok (.mk 36 n n n1 [x]) n1
 else if E.is n [42] then (S.t .unary (n+1) g).andThen fun x n1=>.ok (.mk 35 (-1) n n1 [x]) n1
 else S.t .primary n g
def PC (n:Nat) (g:Bool):R Tr :=
 if E.literal n then leaf 27 true n
 else if E.is n [40] then (S.t .expr (n+1) false).andThen fun x n1=>(want E [41] n1).andThen fun _ n2=>.ok (.mk 28 (-1) n n2 [x]) n2
 else if E.is n [102,117,110,99] then (S.t .signature (n+1) false).andThen fun s n1 =>
  if E.is n1 [123] then (S.t .block n1 false).andThen fun b n2=>.ok (.mk 40 (-1) n n2 [s,b]) n2 else .ok (.mk 46 (-1) n n1 [s]) n1
 else if E.is n [91]||E.is n [115,116,114,117,99,116]||E.is n [109,97,112]||E.is n [99,104,97,110]||E.is n [105,110,116,101,114,102,97,99,101] then S.t .typ n g
 else if E.is n [60,45] then (if E.is (n+1) [99,104,97,110] then S.t .typ n g else .bad n)
 else LC E n
def DC (fr:Nat) (x:Tr) (n:Nat) (g:Bool):R Tr :=
 if E.is n [46] then (S.t (.dot fr x) n g).andThen fun y n1=>S.t (.primMore fr y) n1 g
 else if E.is n [40] then (S.t (.call fr x) n false).andThen fun y n1=>S.t (.primMore fr y) n1 g
 else if E.is n [91] then (S.t (.index fr x) n false).andThen fun y n1=>S.t (.primMore fr y) n1 g
 else if E.is n [123]&&filled g x then (S.t .elements n g).andThen fun e n1=>S.t (.primMore fr (.mk 39 (-1) fr n1 [x,e])) n1 g
 else .ok x n
def SJ (fr:Nat) (x:Tr) (n:Nat) (g:Bool):R Tr :=
 if E.is (n+1) [40] then
  if E.is (n+2) [116,121,112,101] then (want E [41] (n+3)).andThen fun _ n1=>.ok (.mk 33 (-1) fr n1 [x]) n1
  else (S.t .typ (n+2) g).andThen fun t n1=>(want E [41] n1).andThen fun _ n2=>.ok (.mk 32 (-1) fr n2 [x,t]) n2
 else (LC E (n+1)).andThen fun y n1=>.ok (.mk 29 (-1) fr n1 [x,y]) n1
def bG (fr:Nat) (x:Tr) (n:Nat) (g:Bool):R Tr :=
 (rows E S [40] [44] [41] .call n g).andThen fun p n1=>(want E [41] n1).andThen fun _ n2=>.ok (.mk 34 p.2 fr n2 [x,xC 11 p.1 n1]) n2
def sE (fr:Nat) (x:Tr) (n:Nat) (g:Bool):R Tr :=
 (if E.is (n+1) [58] then .ok (vA 0 (n+1)) (n+1) else S.t .expr (n+1) g).andThen fun lo n1 =>
  if E.is n1 [58] then S.t (.slice fr x lo) (n1+1) g else S.t (.indexMore fr x [lo]) n1 g
def fC (fr:Nat) (x:Tr) (acc:List Tr) (n:Nat) (g:Bool):R Tr :=
 if E.is n [44]&&!(E.is (n+1) [93]) then (S.t .expr (n+1) g).andThen fun y n1=>S.t (.indexMore fr x (acc++[y])) n1 g
 else (want E [93] (PB E [44] n)).andThen fun _ n1=>.ok (.mk 30 (-1) fr n1 [x,xC 11 acc n]) n1
def UE (fr:Nat) (x lo:Tr) (n:Nat) (g:Bool):R Tr :=
 if E.is n [93] then .ok (.mk 31 (-1) fr (n+1) [x,lo,vA 0 n,vA 0 n]) (n+1)
 else (S.t .expr n g).andThen fun hi n1 =>
  (if E.is n1 [58] then S.t .expr (n1+1) g else .ok (vA 0 n1) n1).andThen fun most n2 =>
   (want E [93] n2).andThen fun _ n3=>.ok (.mk 31 (-1) fr n3 [x,lo,hi,most]) n3
def OB (n:Nat):R Tr :=
 (rows E S [123] [44] [125] .element n false).andThen fun p n1=>(want E [125] n1).andThen fun _ n2=>.ok (xC 12 p.1 n1) n2
def QC (n:Nat) (g:Bool):R Tr :=
 (S.t .value n g).andThen fun x n1=>if E.is n1 [58] then (S.t .value (n1+1) g).andThen fun y n2=>.ok (.mk 38 (-1) n n2 [x,y]) n2 else .ok x n1
def QE (n:Nat) (g:Bool):R Tr :=
 if E.is n [123] then (S.t .elements n g).andThen fun e n1=>.ok (.mk 39 (-1) n n1 [vA 0 n,e]) n1 else S.t .expr n g
def dC (acc:List Tr) (n:Nat) (g:Bool):R Tr :=
 if E.is n [125]||E.is n [99,97,115,101]||E.is n [100,101,102,97,117,108,116]||E.ended n then .ok (xC 13 acc n) n
 else if E.is n [59] then S.t (.stmtsMore (acc++[vA 49 n])) (n+1) g
 else (S.t .stmt n g).andThen fun x n1 =>
  if E.is n1 [125]||E.ended n1 then S.t (.stmtsMore (acc++[x])) n1 g
  else (want E [59] n1).andThen fun _ n2=>S.t (.stmtsMore (acc++[x])) n2 g
def EE (n:Nat) (g:Bool):R Tr :=
 (want E [123] n).andThen fun _ n1=>(S.t .stmts n1 g).andThen fun s n2=>(want E [125] n2).andThen fun _ n3=>.ok (.mk 58 (-1) n n3 [s]) n3
def ZC (n:Nat) (g:Bool):R Tr :=
 if E.is n [99,111,110,115,116]||E.is n [118,97,114]||E.is n [116,121,112,101] then S.t .declared n g
 else if E.is n [103,111]||E.is n [100,101,102,101,114] then S.t .started n g
 else if E.is n [114,101,116,117,114,110] then S.t .returned n g
 else if E.is n [98,114,101,97,107]||E.is n [99,111,110,116,105,110,117,101]||E.is n [103,111,116,111]||E.is n [102,97,108,108,116,104,114,111,117,103,104] then S.t .branch n g
 else if E.is n [123] then S.t .block n g
 else if E.is n [105,102] then S.t .ifs n g
 else if E.is n [115,119,105,116,99,104] then S.t .switches n g
 else if E.is n [115,101,108,101,99,116] then S.t .selects n g
 else if E.is n [102,111,114] then S.t .fors n g
 else if E.named n&&E.is (n+1) [58] then
  (LC E n).andThen fun label n1 =>
   (if quiet E (n1+1) then .ok (vA 49 (n1+1)) (n1+1) else S.t .stmt (n1+1) g).andThen fun s n2=>.ok (.mk 67 (-1) n n2 [label,s]) n2
 else S.t .simple n g
def lC (n:Nat) (g:Bool):R Tr:=(S.t .group n g).andThen fun x n1=>.ok (.mk 68 (-1) n n1 [x]) n1
def aD (n:Nat) (g:Bool):R Tr:=(S.t .expr (n+1) g).andThen fun x n1=>.ok (.mk (if E.is n [100,101,102,101,114] then 55 else 54) (-1) n n1 [x]) n1
def oC (n:Nat) (g:Bool):R Tr :=
 (if quiet E (n+1) then .ok (vA 11 (n+1)) (n+1) else S.t .exprs (n+1) g).andThen fun x n1=>.ok (.mk 56 (-1) n n1 [x]) n1
def UD (n:Nat):R Tr :=
 (if E.is n [103,111,116,111]||(!(E.is n [102,97,108,108,116,104,114,111,117,103,104])&&E.named (n+1)) then LC E (n+1) else .ok (vA 0 (n+1)) (n+1)).andThen fun x n1=>.ok (.mk 57 n n n1 [x]) n1
def WF (fr:Nat) (left:Tr) (n:Nat) (g:Bool):R Tr :=
 if assigns (E.word n) then (S.t .exprs (n+1) g).andThen fun r n1=>.ok (.mk 53 n fr n1 [left,r]) n1
 else match left.kids with
  | [x] =>
   if E.is n [43,43]||E.is n [45,45] then .ok (.mk 52 n fr (n+1) [x]) (n+1)
   else if E.is n [60,45] then (S.t .expr (n+1) g).andThen fun y n1=>.ok (.mk 51 (-1) fr n1 [x,y]) n1
   else .ok (.mk 50 (-1) fr n [x]) n
  | _=>.bad n
def only (s:Tr) (n:Nat):R Tr :=
 if s.kind=50 then (match s.kids with|x::_=>.ok x n|[]=>.bad n) else .bad n
def SD (fr:Nat) (first cond:Tr) (n:Nat) (g:Bool):R Tr :=
 (S.t .block n g).andThen fun body n1 =>
  (if E.is n1 [101,108,115,101] then (if E.is (n1+1) [105,102] then S.t .ifs (n1+1) g else S.t .block (n1+1) g) else .ok (vA 0 n1) n1).andThen fun other n2 =>
   .ok (.mk 59 (-1) fr n2 [first,cond,body,other]) n2
def XI (n:Nat) (g:Bool):R Tr :=
 if E.is (n+1) [59] then (S.t .expr (n+2) true).andThen fun c n1=>SD E S n (vA 0 (n+1)) c n1 g
 else (S.t .simple (n+1) true).andThen fun s n1 =>
  if E.is n1 [59] then (S.t .expr (n1+1) true).andThen fun c n2=>SD E S n s c n2 g
  else (only s n1).andThen fun c n2=>SD E S n (vA 0 (n+1)) c n2 g
def asked (s:Tr):Option (Tr × Tr) :=
 match s.kind,s.kids with
 | 50,[x]=>(match x.kind,x.kids with|33,[y]=>some (.mk 0 (-1) s.fr s.fr [],y)|_,_=>none)
 | 53,[l,r] =>
  if E.word s.word=[58,61] then
   (match l.kids,r.kids with
    | [a],[b]=>if a.kind=26/\b.kind=33 then (match b.kids with|[y]=>some (a,y)|_=>none) else none
    | _,_=>none)
  else none
 | _,_=>none
def qB (fr:Nat) (first:Tr) (s:Option Tr) (tag:Tr) (n:Nat) (g:Bool):R Tr :=
 match s with
 | none=>(S.t (.clauses 62 1) n g).andThen fun c n1=>.ok (.mk 60 (-1) fr n1 [first,tag,c]) n1
 | some s =>
  match asked E s with
  | some (name,x)=>(S.t (.clauses 62 2) n g).andThen fun c n1=>.ok (.mk 61 (-1) fr n1 [first,name,x,c]) n1
  | none=>(only s n).andThen fun t n1=>(S.t (.clauses 62 1) n1 g).andThen fun c n2=>.ok (.mk 60 (-1) fr n2 [first,t,c]) n2
def nB (fr:Nat) (first:Tr) (n:Nat) (g:Bool):R Tr :=
 if E.is n [123] then qB E S fr first none (vA 0 n) n g
 else (S.t .simple n true).andThen fun s n1=>qB E S fr first (some s) (vA 0 n) n1 g
def qC (n:Nat) (g:Bool):R Tr :=
 if E.is (n+1) [123] then qB E S n (vA 0 (n+1)) none (vA 0 (n+1)) (n+1) g
 else if E.is (n+1) [59] then nB E S n (vA 0 (n+1)) (n+2) g
 else (S.t .simple (n+1) true).andThen fun s n1 =>
  if E.is n1 [59] then nB E S n s (n1+1) g else qB E S n (vA 0 (n+1)) (some s) (vA 0 (n+1)) n1 g
def rD (kind:UInt8) (sort:Nat) (n:Nat):R Tr:=(want E [123] n).andThen fun _ n1=>S.t (.clausesMore kind sort []) n1 false
def mB (kind:UInt8) (sort:Nat) (acc:List Tr) (n:Nat) (g:Bool):R Tr :=
 if E.is n [125] then .ok (xC 25 acc n) (n+1)
 else
  (if E.is n [100,101,102,97,117,108,116] then .ok (vA 0 (n+1)) (n+1) else (want E [99,97,115,101] n).andThen fun _ n1=>S.t (.cased sort) n1 g).andThen fun x n1 =>
   (want E [58] n1).andThen fun _ n2=>(S.t .stmts n2 g).andThen fun s n3=>S.t (.clausesMore kind sort (acc++[.mk kind (-1) n n3 [x,s]])) n3 g
def PE (sort:Nat) (n:Nat) (g:Bool):R Tr:=if sort=1 then S.t .exprs n g else if sort=2 then S.t .types n g else S.t .simple n g
def dD (n:Nat) (g:Bool):R Tr:=(S.t (.clauses 64 3) (n+1) g).andThen fun c n1=>.ok (.mk 63 (-1) n n1 [c]) n1
def cD (fr:Nat) (word:Int) (left:Tr) (n:Nat) (g:Bool):R Tr :=
 (want E [114,97,110,103,101] n).andThen fun _ n1=>(S.t .expr n1 true).andThen fun x n2=>(S.t .block n2 g).andThen fun b n3=>.ok (.mk 66 word fr n3 [left,x,b]) n3
def kD (fr:Nat) (first:Tr) (n:Nat) (g:Bool):R Tr :=
 (want E [59] n).andThen fun _ n1 =>
  (if E.is n1 [59] then .ok (vA 0 n1) n1 else S.t .expr n1 true).andThen fun cond n2 =>
   (want E [59] n2).andThen fun _ n3 =>
    (if E.is n3 [123] then .ok (vA 0 n3) n3 else S.t .simple n3 true).andThen fun last n4 =>
     (S.t .block n4 g).andThen fun b n5=>.ok (.mk 65 (-1) fr n5 [first,cond,last,b]) n5
def fG (n:Nat) (g:Bool):R Tr :=
 if E.is (n+1) [123] then (S.t .block (n+1) g).andThen fun b n1=>.ok (.mk 65 (-1) n n1 [vA 0 (n+1),vA 0 (n+1),vA 0 (n+1),b]) n1
 else if E.is (n+1) [114,97,110,103,101] then S.t (.overall n (-1) (vA 0 (n+1))) (n+1) g
 else if E.is (n+1) [59] then kD E S n (vA 0 (n+1)) (n+1) g
 else (S.t .exprs (n+1) true).andThen fun left n1 =>
  if (E.is n1 [61]||E.is n1 [58,61])&&E.is (n1+1) [114,97,110,103,101] then S.t (.overall n n1 left) (n1+1) g
  else (S.t (.rest (n+1) left) n1 true).andThen fun s n2 =>
   if E.is n2 [59] then kD E S n s n2 g
   else (only s n2).andThen fun x n3=>(S.t .block n3 g).andThen fun b n4=>.ok (.mk 65 (-1) n n4 [vA 0 (n+1),x,vA 0 n3,b]) n4
def DF:F->Nat->Bool->R Tr
 | .file,n,g=>EF E S n g
 | .fileImports name acc,n,g=>lB E S name acc n g
 | .fileDecls name imports acc,n,g=>eC E S name imports acc n g
 | .group,n,g=>CE E S n g
 | .one .expr,n,g=>S.t .expr n g
 | .one .param,n,g=>NE E S n g
 | .one .tparam,n,g=>RD S n g
 | .one .typ,n,g=>S.t .typ n g
 | .one .field,n,g=>WE E S n g
 | .one .elem,n,g=>kG E S n g
 | .one .element,n,g=>QC E S n g
 | .one .importSpec,n,_=>uB E n
 | .one .constSpec,n,g=>LB E S n g
 | .one .typeSpec,n,g=>rC E S n g
 | .one .valueSpec,n,g=>IB E S n g
 | .one .call,n,_=>.bad n
 | .fn,n,g=>fnB E S n g
 | .signature,n,g=>NB E S n g
 | .params,n,g=>XD E S n g
 | .tparams,n,g=>XC E S n g
 | .names,n,g=>OD E S n g
 | .namesMore acc,n,g=>XB E S acc n g
 | .union,n,g=>jB E S [] n g
 | .unionMore acc,n,g=>jB E S acc n g
 | .typ,n,_=>tI E S n
 | .row fr,n,_=>NJ E S fr n
 | .members kind o,n,g=>CB E S kind o n g
 | .typeName,n,g=>nC E S n g
 | .exprs,n,g=>(S.t .expr n g).andThen fun x n1=>S.t (.exprsMore [x]) n1 g
 | .exprsMore acc,n,g=>ZB E S acc n g
 | .types,n,g=>(S.t .typ n g).andThen fun x n1=>S.t (.typesMore [x]) n1 g
 | .typesMore acc,n,g=>cC E S acc n g
 | .expr,n,g=>S.t (.binary 1) n g
 | .binary least,n,g=>(S.t .unary n g).andThen fun x n1=>S.t (.binMore least n x) n1 g
 | .binMore least fr x,n,g=>uD E S least fr x n g
 | .unary,n,g=>FE E S n g
 | .operand,n,g=>PC E S n g
 | .primary,n,g=>(S.t .operand n g).andThen fun x n1=>S.t (.primMore n x) n1 g
 | .primMore fr x,n,g=>DC E S fr x n g
 | .dot fr x,n,g=>SJ E S fr x n g
 | .call fr x,n,g=>bG E S fr x n g
 | .index fr x,n,g=>sE E S fr x n g
 | .indexMore fr x acc,n,g=>fC E S fr x acc n g
 | .slice fr x lo,n,g=>UE E S fr x lo n g
 | .elements,n,_=>OB E S n
 | .value,n,g=>QE E S n g
 | .stmts,n,_=>S.t (.stmtsMore []) n false
 | .stmtsMore acc,n,g=>dC E S acc n g
 | .block,n,g=>EE E S n g
 | .stmt,n,g=>ZC E S n g
 | .declared,n,g=>lC S n g
 | .started,n,g=>aD E S n g
 | .returned,n,g=>oC E S n g
 | .branch,n,_=>UD E n
 | .simple,n,g=>(S.t .exprs n g).andThen fun left n1=>S.t (.rest n left) n1 g
 | .rest fr left,n,g=>WF E S fr left n g
 | .ifs,n,g=>XI E S n g
 | .switches,n,g=>qC E S n g
 | .clauses kind sort,n,_=>rD E S kind sort n
 | .clausesMore kind sort acc,n,g=>mB E S kind sort acc n g
 | .cased sort,n,g=>PE S sort n g
 | .selects,n,g=>dD S n g
 | .fors,n,g=>fG E S n g
 | .overall fr word left,n,g=>cD E S fr word left n g
def step:AB:=⟨DF E S,fun mark shut o acc word n g=>LF E S mark shut o acc word n g⟩
end
def kA (E:Env):Nat->AB
 | 0=>⟨fun _ _ _=>.out,fun _ _ _ _ _ _ _=>.out⟩
 | k+1=>step E (kA E k)
end
