import Derived.Test.YtjdllofmhglmiaaGreatDoorQAC
import Derived.Test.YtjdllofmhglmiaaGreatDoorQAE
namespace Go.Proofs.YtjdllofmhglmiaaGreatDoor
set_option linter.all false
set_option maxHeartbeats 40000000
set_option maxRecDepth 100000
namespace Rf
set_option linter.unusedSectionVars false
section
variable {E:Env}{K k n:Nat}{g:Bool}{S':RF->St->O Tr} (hR:∀ i,i<=k->Rel E (spec E i) S') (hB:BX3 S') (hK:k+10<=K) (hP:∀ x∈E.pair,-1<=x) (hN:Nn E S')
include hR hB hK hP hN
theorem DX3 {fr m q K':Nat}{x:Tr}{f:St->O Tr}{l:List Tr} (hK':1<=K'):Bd Gd q (cX1 E K' (-1) fr x f l ⟨m,some q⟩):=by
 unfold cX1;rw [cX0 qX9 hK'];exact mn
theorem EX4 {fr:Nat}{x:Tr}:∀ i acc n K',i<=k->i+1<=K'->acc≠[]->gX0 Gd ((if E.is n [93] then (spec E i).l [44] [93] .typ acc (-1) n false else (want E [44] n).andThen fun _ n2=>(spec E i).l [44] [93] .typ acc (-1) n2 false).andThen fun p n3=>(want E [93] n3).andThen fun _ n4=>.ok (.mk 30 (-1) fr n4 [x,xC 11 p.1 n3]) n4)
   (cX1 E K' (-1) fr x (S' .typ) acc ⟨n,none⟩)
 | 0,acc,n,K',_,hK',ha=>by
  unfold cX1;obtain⟨K',rfl⟩:∃ j,K'=j+1:=⟨K' - 1,Cs⟩;rw [LX0,wX5];by_cases h1:E.is n [93]=true
  ·rw [Bb h1];trivial
  ·rw [Bc h1];by_cases h2:E.is n [44]=true
   ·simp only [want,h2,Be,mA];trivial
   ·have h1:E.is n [93]=false:=by simpa using h1
    exact zcf
 | i+1,acc,n,K',hk,hK',ha=>by
  unfold cX1;obtain⟨K',rfl⟩:∃ j,K'=j+1:=⟨K' - 1,Cs⟩;rw [LX0,wX5];have el:∀ m,(spec E (i+1)).l [44] [93] .typ acc (-1) m false=if E.is m [93] then .ok (acc,-1) m else ((spec E i).t (.one .typ) m false).andThen fun x n1=>if E.is n1 [93] then (spec E i).l [44] [93] .typ (acc++[x]) (-1) n1 false else (want E [44] n1).andThen fun _ n2=>(spec E i).l [44] [93] .typ (acc++[x]) (-1) n2 false:=by
   intro m
   show LF E (spec E i) [44] [93] .typ acc (-1) m false=_
   unfold LF;simp only [zA,mA]
  by_cases h1:E.is n [93]=true
  ·simp only [h1,Be,el,mA,want,show E.is n [44]=false from by rw [isw h1];rfl,Bool.false_and,Ba,Bf,ZQ9,eX4,mX0];exact mn
  ·have h1:E.is n [93]=false:=by simpa using h1
   by_cases h2:E.is n [44]=true
   ·simp only [h1,h2,Ba,Bf,Be,want,mA,el,Bool.true_and];by_cases h3:E.is (n+1) [93]=true
    ·simp only [h3,Be,Bool.not_true,Ba,Bf,ZQ9,eX4,h2,mX0,mA];rw [FX2 (n:=n+1) (m:=n) ha];exact mn
    ·have h3:E.is (n+1) [93]=false:=by simpa using h3
     simp only [h3,Ba,Bf,Bu,Be,zA,aX0];obtain⟨G,hG⟩:=RX6 hR hB hK hP hN .typ (o:=.typ) (fun _ _=>rfl) (fun _=>trivial) trivial i Cs (n+1);refine Sim.bind hG (fun y m _=>?_) (fun y m q _=>?_)
     ·simp only [ZQ9,Be];exact EX4 i (acc++[y]) m K' Cs Cs Cu
     ·exact zea
   ·exact zcf
theorem oX4:gX0 Gd (nC E (spec E k) n false) (PX2 E (K+1) S' ⟨n,none⟩):=by
 have tl:∀ (x:Tr) (m:Nat),gX0 Gd (if E.is m [91] then (if E.is (m+1) [93] then R.bad (m+1) else (rows E (spec E k) [91] [44] [93] .typ m false).andThen fun p n3=>(want E [93] n3).andThen fun _ n4=>.ok (.mk 30 (-1) n n4 [x,xC 11 p.1 n3]) n4) else .ok x m)
   (if nx E [91] ⟨m,none⟩ then bnd (tk E [91] ⟨m,none⟩) fun _ s3=>bnd (S' .typ s3) fun t s4=>cX1 E (K+1) (-1) n x (S' .typ) [t] s4 else some (x,⟨m,none⟩)):=by
  intro x m;rw [wX0];refine Sim.ite (fun h=>?_) (fun _=>rfl);simp only [mX0,h,Be,ZQ9,rows,want,mA];refine ll (fun h1=>?_) (fun h1=>?_)
  ·refine pX1 (Bd.bind (hN.typ _ h1) (fun t q _=>DX3 hR hB hK hP hN Cs))
  ·cases k with
   | zero=>trivial
   | succ k =>
    show gX0 Gd ((LF E (spec E k) [44] [93] .typ [] (-1) (m+1) false).andThen _) _
    unfold LF;simp only [h1,Ba,Bf,zA,mA,Ar];obtain⟨G,hG⟩:=RX6 hR hB hK hP hN .typ (o:=.typ) (fun _ _=>rfl) (fun _=>trivial) trivial k Cs (m+1);refine Sim.bind hG (fun y m _=>?_) (fun y m q _=>?_)
    ·exact EX4 (k:=k) (fun i hi=>hR i Cs) hB (K:=K) Cs hP hN k [y] m (K+1) (C' _) Cs Cu
    ·exact DX3 hR hB hK hP hN Cs
 have tb:∀ (x:Tr) (m q:Nat),Gd x->Bd Gd q (if nx E [91] ⟨m,some q⟩ then bnd (tk E [91] ⟨m,some q⟩) fun _ s3=>bnd (S' .typ s3) fun t s4=>cX1 E (K+1) (-1) n x (S' .typ) [t] s4 else some (x,⟨m,some q⟩)):=fun x m q hx=>by
  simp only [VX0,Ba,Bf];exact Bd.some hx
 unfold nC PX2;simp only [EX3,VX1,oA,mA,PA,hX0,ZQ9];refine Sim.ite (fun _=>?_) (fun _=>?_)
 ·simp only [wX0];refine Sim.ite (fun h=>?_) (fun _=>tl _ _);simp only [mX0,h,Be,ZQ9,VX1,hX0,CX3];refine Sim.ite (fun _=>?_) (fun _=>pX1 ?_)
  ·have:=tl (.mk 29 (-1) n (n+1+1+1) [.mk 26 n n (n+1) [],.mk 26 ((n+1+1:Nat):Int) (n+1+1) (n+1+1+1) []]) (n+1+1+1);exact zbw
  ·simp only [VX0,Ba,Bf];exact Bd.some gg
 ·simp only [VX0,Ba,Bf,ZQ9];exact pX1 (Bd.some gg)
theorem pX6 {fr:Nat}{x:Tr} (h:E.is n [91]=true):gX0 Gd (sE E (spec E k) fr x n false) (NX1 E (K+1) S' x fr ⟨n,none⟩):=by
 have lp:∀ i acc n K',i<=k->i+1<=K'->gX0 Gd ((spec E i).t (.indexMore fr x acc) n false) (cX1 E K' (-1) fr x (S' (.expr false)) acc ⟨n,none⟩):=by
  intro i
  induction i with
  | zero=>intros;trivial
  | succ i ih =>
   intro acc n K' hk hK';obtain⟨K',rfl⟩:∃ j,K'=j+1:=⟨K' - 1,Cs⟩
   show gX0 Gd (fC E (spec E i) fr x acc n false) _
   unfold fC cX1;rw [LX0,wX5];by_cases hc:(E.is n [44]&&!E.is (n+1) [93])=true
   ·simp only [hc,Be,aX0];refine (hR i Cs).call .expr trivial trivial (fun y m _=>?_) (fun y m q _=>?_)
    ·simp only [ZQ9,Be];exact ih (acc++[y]) m K' Cs Cs
    ·exact zea
   ·rw [Bc hc,Bc hc];exact mn
 unfold sE NX1;simp only [mX0,h,Be,ZQ9];have tl:∀ (lo:Tr) (m:Nat),gX0 Gd (if E.is m [58] then (spec E k).t (.slice fr x lo) (m+1) false else (spec E k).t (.indexMore fr x [lo]) m false)
   (if nx E [58] ⟨m,none⟩ then bnd (tk E [58] ⟨m,none⟩) fun _ s3 =>
    if nx E [93] s3 then bnd (tk E [93] s3) fun _ s4=>ret 31 (-1) fr [x,lo,vA 0 s3.n,vA 0 s3.n] s4
    else bnd (S' (.expr false) s3) fun hi s4=>bnd (if nx E [58] s4 then bnd (tk E [58] s4) fun _ s5=>S' (.expr false) s5 else some (vA 0 s4.n,s4)) fun most s5=>bnd (tk E [93] s5) fun _ s6=>ret 31 (-1) fr [x,lo,hi,most] s6
    else cX1 E (K+1) (-1) fr x (S' (.expr false)) [lo] ⟨m,none⟩):=by
  intro lo m;rw [wX0];refine Sim.ite (fun h1=>?_) (fun _=>lp k [lo] m (K+1) (C' _) Cs);cases k with
  | zero=>trivial
  | succ k =>
   show gX0 Gd (UE E (spec E k) fr x lo (m+1) false) _
   unfold UE;exact mn
 have tb:∀ (lo:Tr) (m q:Nat),Bd Gd q (if nx E [58] ⟨m,some q⟩ then bnd (tk E [58] ⟨m,some q⟩) fun _ s3 =>
    if nx E [93] s3 then bnd (tk E [93] s3) fun _ s4=>ret 31 (-1) fr [x,lo,vA 0 s3.n,vA 0 s3.n] s4
    else bnd (S' (.expr false) s3) fun hi s4=>bnd (if nx E [58] s4 then bnd (tk E [58] s4) fun _ s5=>S' (.expr false) s5 else some (vA 0 s4.n,s4)) fun most s5=>bnd (tk E [93] s5) fun _ s6=>ret 31 (-1) fr [x,lo,hi,most] s6
    else cX1 E (K+1) (-1) fr x (S' (.expr false)) [lo] ⟨m,some q⟩):=fun lo m q=>by
  rw [VX0,Bc Ct];exact DX3 hR hB hK hP hN Cs
 simp only [wX0,oA,mA,hX0,ZQ9];refine Sim.ite (fun _=>?_) (fun _=>?_)
 ·have:=tl (vA 0 (n+1)) (n+1);exact zbw
 exact (hR _ (C' _)).call .expr trivial trivial (fun y m _=>(by have:=tl y m;simpa only [mX0,wX0,want,oA,mA,PA,zA,hX0,ZQ9,aX0] using this)) (fun y m q _=>(by have:=tb y m q;simpa only [hX0,ZQ9] using this))
theorem TX6 {fr:Nat}{x:Tr}:gX0 Gd (bG E (spec E k) fr x n false) (hX5 E (K+1) S' x fr ⟨n,none⟩):=by
 have dn:∀ (acc:List Tr) (w:Int) (m:Nat),(acc=[]->m=n+1)->gX0 Gd ((want E [41] m).andThen fun _ n2=>.ok (.mk 34 w fr n2 [x,xC 11 acc m]) n2) (bnd (tk E [41] ⟨m,none⟩) fun _ s3=>ret 34 w fr [x,xC 11 acc (n+1)] s3):=fun acc w m hm=>by
  have e:xC 11 acc m=xC 11 acc (n+1):=by
   exact zeo
  rw [e];exact mn
 have lp:∀ i acc m K',i<=k->i<=K'->(acc=[]->m=n+1)->gX0 Gd (((spec E i).l [44] [41] .call acc (-1) m false).andThen fun p n1=>(want E [41] n1).andThen fun _ n2=>.ok (.mk 34 p.2 fr n2 [x,xC 11 p.1 n1]) n2)
   (bnd (iX0 (K'+1) (fun (p:List Tr × Int) s =>
    if s.ok&&!nx E [41] s then bnd (S' (.expr false) s) fun y s2 =>
     if nx E [46,46,46] s2 then bnd (tk E [46,46,46] s2) fun _ s3=>bnd (KX1 E [44] s3) fun _ s4=>some ((false,(p.1++[y],(s2.n:Int))),s4)
     else if nx E [41] s2 then some ((true,(p.1++[y],p.2)),s2) else bnd (tk E [44] s2) fun _ s3=>some ((true,(p.1++[y],p.2)),s3)
    else some ((false,p),s)) (acc,-1) ⟨m,none⟩) fun p s2=>bnd (tk E [41] s2) fun _ s3=>ret 34 p.2 fr [x,xC 11 p.1 (n+1)] s3):=by
  intro i
  induction i with
  | zero=>intros;trivial
  | succ i ih =>
   intro acc m K' hk hK' hm
   show gX0 Gd ((LF E (spec E i) [44] [41] .call acc (-1) m false).andThen _) _
   unfold LF;rw [LX0];simp only [kX1,wX0,Bool.true_and,show ¬ (0:Int)<=-1 by decide,Bf];by_cases h1:E.is m [41]=true
   ·simp only [h1,Be,Bool.not_true,Ba,Bf,mA,ZQ9];exact dn acc (-1) m hm
   ·have h1:E.is m [41]=false:=by simpa using h1
    simp only [h1,Bu,Be,Ba,Bf,zA,aX0];obtain⟨K',rfl⟩:∃ j,K'=j+1:=⟨K' - 1,Cs⟩;refine (hR i Cs).call .expr trivial trivial (fun y m2 _=>?_) (fun y m2 q _=>?_)
    ·simp only [wX0,oA,mA,hX0];refine Sim.ite (fun h2=>?_) (fun _=>?_)
     ·
      have hfin:∀ m3,gX0 Gd (((spec E i).l [44] [41] .call (acc++[y]) (m2:Int) m3 false).andThen fun p n1=>(want E [41] n1).andThen fun _ n2=>.ok (.mk 34 p.2 fr n2 [x,xC 11 p.1 n1]) n2) (bnd (tk E [41] ⟨m3,none⟩) fun _ s3=>ret 34 m2 fr [x,xC 11 (acc++[y]) (n+1)] s3):=by
       intro m3;cases i with
       | zero=>trivial
       | succ i =>
        show gX0 Gd ((LF E (spec E i) [44] [41] .call (acc++[y]) (m2:Int) m3 false).andThen _) _
        unfold LF;simp only [show (0:Int)<=(m2:Int) from Cs,Be];by_cases h3:E.is m3 [41]=true
        ·simp only [h3,Be,mA];exact dn (acc++[y]) m2 m3 (fun e=>Jb)
        ·have h3:E.is m3 [41]=false:=by simpa using h3
         simp only [h3,Ba,Bf,PA,mX0,ZQ9];exact mn
      simp only [mX0,h2,Be,ZQ9,eX4,hX0,Ba,Bf];by_cases h4:E.is (m2+1) [41]=true
      ·simp only [h4,Be,show E.is (m2+1) [44]=false from by rw [isw h4];rfl,Ba,Bf];have:=hfin (m2+1);simpa only [mX0,h4,Be,ZQ9] using this
      ·have h4:E.is (m2+1) [41]=false:=by simpa using h4
       simp only [h4,Ba,Bf,want,oA,mA,PA];refine Sim.ite (fun _=>?_) (fun _=>?_)
       ·have:=hfin (m2+1+1);exact zbw
       ·exact mn
     ·refine Sim.ite (fun h2=>?_) (fun _=>?_)
      ·simp only [ZQ9,Be];exact ih (acc++[y]) m2 K' Cs Cs (fun e=>Jb)
      ·simp only [mX0,want,oA,mA,PA,hX0,ZQ9,Be];refine Sim.ite (fun h2=>?_) (fun _=>?_)
       ·have:=ih (acc++[y]) (m2+1) K' Cs Cs (fun e=>Jb);exact zeg
       ·refine pX1 ?_;exact zdh
    ·simp only [VX0,Ba,Bf,vX1,ZQ9,Be];exact zdh
 unfold bG hX5 rows;simp only [mX0,want,oA,mA,PA,hX0,ZQ9];refine Sim.ite (fun _=>?_) (fun _=>?_)
 ·have:=lp k [] (n+1) K (C' _) Cs (fun _=>rfl);exact zeg
 ·refine pX1 ?_;exact zdh
end
end Rf
namespace Rf
set_option linter.unusedSectionVars false
section
variable {E:Env}{K k n:Nat}{g:Bool}{S':RF->St->O Tr} (hR:∀ i,i<=k->Rel E (spec E i) S') (hB:BX3 S') (hK:k+10<=K) (hP:∀ x∈E.pair,-1<=x) (hN:Nn E S')
include hR hB hK hP hN
theorem TX4:gX0 Gd (((spec E k).t .operand n g).andThen fun x n1=>(spec E k).t (.primMore n x) n1 g) (yX1 E (K+1) S' g ⟨n,none⟩):=by
 have lp:∀ i x m K',i<=k->i<=K'->Sh x->gX0 Gd ((spec E i).t (.primMore n x) m g) (iX0 (K'+1) (fun x s1 =>
  if !s1.ok then some ((false,x),s1)
  else if nx E [46] s1 then bnd (S' (.dotted x n) s1) fun y s2=>some ((true,y),s2)
  else if nx E [40] s1 then bnd (S' (.call x n) s1) fun y s2=>some ((true,y),s2)
  else if nx E [91] s1 then bnd (S' (.indexed x n) s1) fun y s2=>some ((true,y),s2)
  else if nx E [123] s1 then (if rX2 x then (if filled g x then bnd (S' .elements s1) fun e s2=>bnd (ret 39 (-1) n [x,e] s2) fun z s3=>some ((true,z),s3) else some ((false,x),s1)) else none)
  else some ((false,x),s1)) x ⟨m,none⟩):=by
  intro i
  induction i with
  | zero=>intros;trivial
  | succ i ih =>
   intro x m K' hk hK' hx
   show gX0 Gd (DC E (spec E i) n x m g) _
   unfold DC;rw [LX0];have hm:rX2 x=true:=by
    have ha:=hx.arity;have h29:∀ y:Tr,Sh y->y.kind=29->y.kids.isEmpty=false:=fun y hy e=>by
     have h2:=hy.arity;rw [e] at h2;rcases hk:y.kids with _|⟨a,b⟩
     ·rw [hk] at h2;exact absurd h2 Ct
     ·rfl
    unfold rX2;by_cases h30:x.kind=30
    ·rw [h30] at ha;rcases hk:x.kids with _|⟨y,r⟩
     ·exact ze8
     ·simp only [h30,beq_self_eq_true,Be];have hy:Sh y:=hx.kids.mem Ew;by_cases h2:y.kind=29
      ·simp [h2,h29 y hy h2]
      ·simp [h2]
    ·simp only [show (x.kind==30)=false from by simpa using h30,Ba,Bf];by_cases h2:x.kind=29
     ·simp [h2,h29 x hx h2]
     ·simp [h2]
   obtain⟨K',rfl⟩:∃ j,K'=j+1:=⟨K' - 1,Cs⟩;have bd:∀ (y:Tr) (m q:Nat),Gd y->Bd Gd q (iX0 (K'+1) (fun x s1 =>
  if !s1.ok then some ((false,x),s1)
  else if nx E [46] s1 then bnd (S' (.dotted x n) s1) fun y s2=>some ((true,y),s2)
  else if nx E [40] s1 then bnd (S' (.call x n) s1) fun y s2=>some ((true,y),s2)
  else if nx E [91] s1 then bnd (S' (.indexed x n) s1) fun y s2=>some ((true,y),s2)
  else if nx E [123] s1 then (if rX2 x then (if filled g x then bnd (S' .elements s1) fun e s2=>bnd (ret 39 (-1) n [x,e] s2) fun z s3=>some ((true,z),s3) else some ((false,x),s1)) else none)
  else some ((false,x),s1)) y ⟨m,some q⟩):=fun y m q hy=>by
    rw [cX0 Gk Cs];exact Bd.some hy
   simp only [kX1,Bool.not_true,Ba,Bf,wX0,hX0,aX0,hm,Be];refine Sim.ite (fun h=>?_) (fun _=>Sim.ite (fun h=>?_) (fun _=>Sim.ite (fun h=>?_) (fun _=>?_)))
   ·exact (hR i Cs).call (.dot n x) h hx (fun y m hy=>ih y m K' Cs Cs hy) (fun y m q hy=>bd y m q hy)
   ·exact (hR i Cs).call (.call n x) rfl hx (fun y m hy=>ih y m K' Cs Cs hy) (fun y m q hy=>bd y m q hy)
   ·exact (hR i Cs).call (.index n x) ⟨rfl,h⟩ hx (fun y m hy=>ih y m K' Cs Cs hy) (fun y m q hy=>bd y m q hy)
   ·refine la (fun h=>?_) (fun h=>?_)
    ·simp only [h,Be];refine Sim.ite (fun h=>?_) (fun _=>rfl);exact (hR i Cs).call .elements trivial trivial (fun y m hy=>ih _ m K' Cs Cs ⟨rfl,hx,hy,trivial⟩) (fun y m q hy=>bd _ m q gg)
    ·simp only [h,Ba,Bf]
     rfl
 unfold yX1;refine (hR _ (C' _)).call .operand trivial trivial (fun x m hx=>lp k x m K (C' _) Cs hx) (fun x m q hx=>?_);rw [cX0 Gk Cs];exact Bd.some hx
omit hR hB hK hP hN in
theorem eX7 (w:List UInt8) (j:Nat) (hj:j < 5):((dX3 j).any fun v=>w==v)=decide (DD w=j+1):=by
 have hj':j=0∨j=1∨j=2∨j=3∨j=4:=Cs
 by_cases h:w∈([[124,124],[38,38],[61,61],[33,61],[60],[60,61],[62],[62,61],[43],[45],[124],[94],[42],[47],[37],[60,60],[62,62],[38],[38,94]]:List (List UInt8))
 ·simp only [List.mem_cons,List.not_mem_nil,or_false] at h;rcases h with rfl|rfl|rfl|rfl|rfl|rfl|rfl|rfl|rfl|rfl|rfl|rfl|rfl|rfl|rfl|rfl|rfl|rfl|rfl <;> rcases hj' with rfl|rfl|rfl|rfl|rfl <;> rfl
 ·simp only [List.mem_cons,List.not_mem_nil,or_false,not_or] at h;have h0:DD w=0:=by unfold DD;simp only [h,or_self,Bf]
  rw [h0];rcases hj' with rfl|rfl|rfl|rfl|rfl <;> simp [dX3,h]
omit hR hB hK hP hN in
theorem jX9 (w:List UInt8):DD w<=5:=by
 unfold DD
 repeat' split
 all_goals omega
omit hR hB hK hP hN in
theorem OX7:∀ i l fr x m y q,(spec E i).t (.binMore l fr x) m g=.ok y q->DD (E.word (q:Int)) < l:=by
 intro i
 induction i with
 | zero=>intro l fr x m y q h;cases h
 | succ i ih =>
  intro l fr x m y q h;replace h:uD E (spec E i) l fr x m g=.ok y q:=h;unfold uD at h;by_cases hv:DD (E.word (m:Int)) < l
  ·rw [Bb hv] at h;cases h;exact hv
  ·rw [Bc hv] at h;cases hb:(spec E i).t (.binary (DD (E.word (m:Int))+1)) (m+1) g with
   | ok z n1=>rw [hb] at h;exact ih _ _ _ _ _ _ h
   | bad k=>rw [hb] at h;cases h
   | out=>rw [hb] at h;cases h
omit hR hB hK hP hN in
theorem aX5 {i l m q:Nat}{y:Tr} (h:(spec E i).t (.binary l) m g=.ok y q):DD (E.word (q:Int)) < l:=by
 cases i with
 | zero=>cases h
 | succ i =>
  replace h:(((spec E i).t .unary m g).andThen fun x n1=>(spec E i).t (.binMore l m x) n1 g)=.ok y q:=h;cases hb:(spec E i).t .unary m g with
  | ok z n1=>rw [hb] at h;exact OX7 _ _ _ _ _ _ _ h
  | bad k=>rw [hb] at h;cases h
  | out=>rw [hb] at h;cases h
def OX1 (E:Env) (K:Nat) (S':RF->St->O Tr) (g:Bool) (d fr:Nat):Tr->St->O (Bool × Tr):=fun x s1 =>
 if s1.ok&&am E s1.n (dX3 (4 - d)) then bnd (uX0 E K S' g d s1.up) fun y s2=>bnd (ret 37 s1.n fr [x,y] s2) fun z s3=>some ((true,z),s3) else some ((false,x),s1)
def yX0 (E:Env) (K:Nat) (S':RF->St->O Tr) (g:Bool) (κ:Nat->Nat) (a fr:Nat):Nat->Tr->St->O Tr
 | 0,x,s=>some (x,s)
 | c+1,x,s=>bnd (yX0 E K S' g κ a fr c x s) (iX0 (κ (a+c)) (OX1 E K S' g (a+c) fr))
omit hR hB hK hP hN in
theorem SX3 {κ:Nat->Nat}{a fr:Nat}:∀ c d x s,yX0 E K S' g κ a fr (c+d) x s=bnd (yX0 E K S' g κ a fr c x s) (yX0 E K S' g κ (a+c) fr d)
 | c,0,x,s=>by show yX0 E K S' g κ a fr c x s=bnd _ (fun x s=>some (x,s));rw [uX5]
 | c,d+1,x,s=>by
  show bnd (yX0 E K S' g κ a fr (c+d) x s) _=_
  rw [SX3 c d x s,aX0,show a+c.add d=a+c+d from (Nat.add_assoc a c d).symm]
  rfl
omit hR hB hK hP hN in
theorem GX3 {κ κ':Nat->Nat}{a fr:Nat}:∀ c x s,(∀ t,a<=t->κ t=κ' t)->yX0 E K S' g κ a fr c x s=yX0 E K S' g κ' a fr c x s
 | 0,_,_,_=>rfl
 | c+1,x,s,h=>by
  show bnd (yX0 E K S' g κ a fr c x s) _=bnd (yX0 E K S' g κ' a fr c x s) _
  rw [GX3 c x s h,h (a+c) Cs]
omit hR hB hK hP hN in
theorem RX1 (κ:Nat->Nat) (hκ:∀ t,κ t=K):∀ j s,uX0 E K S' g j s=bnd (S' (.unary g) s) (yX0 E K S' g κ 0 s.n j)
 | 0,s=>by show S' (.unary g) s=bnd _ (fun x s=>some (x,s));rw [uX5]
 | j+1,s=>by
  have e:uX0 E K S' g (j+1) s=bnd (uX0 E K S' g j s) (iX0 K (OX1 E K S' g j s.n)):=rfl;rw [e,RX1 κ hκ j s,aX0]
  congr 1
  funext x s1
  show _=bnd (yX0 E K S' g κ 0 s.n j x s1) (iX0 (κ (0+j)) (OX1 E K S' g (0+j) s.n))
  rw [hκ,Nat.zero_add]
omit hR hB hK hP hN in
theorem FX1 {κ:Nat->Nat}{fr m a:Nat}{x:Tr} (hκ:∀ t,1<=κ t):∀ c,a+c<=5->DD (E.word (m:Int)) < 6 - (a+c)->yX0 E K S' g κ a fr c x ⟨m,none⟩=some (x,⟨m,none⟩)
 | 0,_,_=>rfl
 | c+1,hc,h=>by
  show bnd (yX0 E K S' g κ a fr c x ⟨m,none⟩) _=_
  rw [FX1 hκ c Cs Cs,ZQ9,cX0 _ (hκ _)];unfold OX1 am;rw [eX7 _ _ Cs];simp only [kX1,Bool.true_and,show decide (DD (E.word (m:Int))=4 - (a+c)+1)=false from Cv,Ba,Bf]
omit hR hB hK hP hN in
theorem iX3 {κ:Nat->Nat}{fr m q a:Nat}{x:Tr} (hκ:∀ t,1<=κ t):∀ c,yX0 E K S' g κ a fr c x ⟨m,some q⟩=some (x,⟨m,some q⟩)
 | 0=>rfl
 | c+1=>by
  show bnd (yX0 E K S' g κ a fr c x ⟨m,some q⟩) _=_
  rw [iX3 hκ c,ZQ9,cX0 _ (hκ _)];simp [OX1,UX0]
theorem sX7:∀ i,i<=k->∀ j,j<=5->∀ κ:Nat->Nat,(∀ t,i+1<=κ t)->∀ fr x m,gX0 Gd ((spec E i).t (.binMore (6 - j) fr x) m g) (yX0 E (K+1) S' g κ 0 fr j x ⟨m,none⟩):=by
 intro i
 induction i using Nat.strongRecOn with
 | ind i ih =>
 intro hi j hj κ hκ fr x m;cases i with
 | zero=>trivial
 | succ i =>
 show gX0 Gd (uD E (spec E i) (6 - j) fr x m g) _
 unfold uD;have hlv:=jX9 (E.word (m:Int));by_cases hv:DD (E.word (m:Int)) < 6 - j
 ·rw [Bb hv,FX1 (fun t=>La) j Cs Cs]
  rfl
 ·rw [Bc hv];obtain⟨v,hv0⟩:∃ v,v=DD (E.word (m:Int)):=⟨_,rfl⟩;rw [<- hv0] at hv hlv ⊢;obtain⟨d,hd⟩:∃ d,d=5 - v:=⟨_,rfl⟩;have hsp:∀ κ' x s,yX0 E (K+1) S' g κ' 0 fr j x s=bnd (yX0 E (K+1) S' g κ' 0 fr d x s) fun x s=>bnd (iX0 (κ' d) (OX1 E (K+1) S' g d fr) x s) (yX0 E (K+1) S' g κ' (d+1) fr (j - (d+1))):=fun κ' x s=>by
   have h1:=SX3 (E:=E) (K:=K+1) (S':=S') (g:=g) (κ:=κ') (a:=0) (fr:=fr) (d+1) (j - (d+1)) x s;rw [show d+1+(j - (d+1))=j by omega,Nat.zero_add] at h1;rw [h1]
   show bnd (bnd (yX0 E (K+1) S' g κ' 0 fr d x s) (iX0 (κ' (0+d)) (OX1 E (K+1) S' g (0+d) fr))) _=_
   rw [aX0,Nat.zero_add]
  rw [hsp,FX1 (fun t=>La) d Cs Cs,ZQ9];obtain⟨κd,hκd⟩:∃ q,κ d=q+1:=⟨κ d - 1,by have:=hκ d;omega⟩;have hb:OX1 E (K+1) S' g d fr x ⟨m,none⟩=bnd (uX0 E (K+1) S' g d ⟨m+1,none⟩) fun y s2=>bnd (ret 37 m fr [x,y] s2) fun z s3=>some ((true,z),s3):=by
   unfold OX1 am;rw [eX7 _ _ Cs,<- hv0];simp only [kX1,Bool.true_and,show decide (v=4 - d+1)=true from Cv,Be,up_]
  rw [hκd,LX0,hb];simp only [aX0,ZQ9,ret,Be];have hP1:gX0 Gd ((spec E i).t (.binary (v+1)) (m+1) g) (uX0 E (K+1) S' g d ⟨m+1,none⟩):=by
   cases i with
   | zero=>trivial
   | succ i =>
    show gX0 Gd (((spec E i).t .unary (m+1) g).andThen fun x n1=>(spec E i).t (.binMore (v+1) (m+1) x) n1 g) _
    rw [RX1 (fun _=>K+1) (fun _=>rfl),show v+1=6 - d by omega];refine (hR i Cs).call .unary trivial trivial (fun y q _=>?_) (fun y q b hy=>?_)
    ·exact ih i Cs Cs d Cs _ (fun _=>Cs) _ _ _
    ·rw [iX3 (fun _=>Cs)];exact Bd.some hy
  refine Sim.bind hP1 (fun y n1 hy=>?_) (fun y n1 b hy=>?_)
  ·have hst:=aX5 hy;have hI:=ih i Cs Cs j hj (fun t=>if t=d then κd else κ t) (fun t=>by
    have:=hκ t
    show i+1<=if t=d then κd else κ t
    split
    ·have:=hκ d;omega
    ·omega) fr (.mk 37 m fr n1 [x,y]) n1
   rw [hsp,FX1 (fun t=>by
    show 1<=if t=d then κd else κ t
    have:=hκ t;split
    ·have:=hκ d;omega
    ·omega) d Cs Cs,ZQ9] at hI
   simp only [Be] at hI;rw [show yX0 E (K+1) S' g (fun t=>if t=d then κd else κ t) (d+1) fr (j - (d+1))=yX0 E (K+1) S' g κ (d+1) fr (j - (d+1)) from by
    funext x s;exact GX3 _ _ _ (fun t ht=>Bc Cs)] at hI
   exact hI
  ·have hk1:1<=κd:=by have:=hκ d;omega
   have hbb:OX1 E (K+1) S' g d fr (.mk 37 m fr n1 [x,y]) ⟨n1,some b⟩=some ((false,.mk 37 m fr n1 [x,y]),⟨n1,some b⟩):=by simp [OX1,UX0]
   rw [cX0 hbb hk1,ZQ9,iX3 (fun t=>La)];exact Bd.some gg
theorem dX7:gX0 Gd ((spec E k).t (.binary 1) n g) (uX0 E (K+1) S' g 5 ⟨n,none⟩):=by
 cases k with
 | zero=>trivial
 | succ k =>
  show gX0 Gd (((spec E k).t .unary n g).andThen fun x n1=>(spec E k).t (.binMore 1 n x) n1 g) _
  rw [RX1 (fun _=>K+1) (fun _=>rfl)];refine (hR k Cs).call .unary trivial trivial (fun y q _=>?_) (fun y q b hy=>?_)
  ·exact sX7 hR hB hK hP hN k Cs 5 Cs _ (fun _=>Cs) _ _ _
  ·rw [iX3 (fun _=>Cs)];exact Bd.some hy
theorem tX6:gX0 Gd ((spec E k).t (.stmtsMore []) n false) (JX3 E (K+1) S' ⟨n,none⟩):=by
 have lp:∀ i acc m K',i<=k->i<=K'->(acc=[]->m=n)->gX0 Gd ((spec E i).t (.stmtsMore acc) m false) (bnd (iX0 (K'+1) (fun l s =>
  if OX0 E s then some ((false,l),s)
  else if nx E [59] s then bnd (ret 49 (-1) s.n [] s) fun z s=>bnd (tk E [59] s) fun _ s1=>some ((true,l++[z]),s1)
  else bnd (S' .stmt s) fun x s1=>if nx E [125] s1||ends E s1 then some ((true,l++[x]),s1) else bnd (tk E [59] s1) fun _ s2=>some ((true,l++[x]),s2)) acc ⟨m,none⟩) fun l s1=>some (xC 13 l n,s1)):=by
  intro i
  induction i with
  | zero=>intros;trivial
  | succ i ih =>
   intro acc m K' hk hK' hm;obtain⟨K',rfl⟩:∃ j,K'=j+1:=⟨K' - 1,Cs⟩
   show gX0 Gd (dC E (spec E i) acc m false) _
   unfold dC;rw [LX0];have e:OX0 E ⟨m,none⟩=(E.is m [125]||E.is m [99,97,115,101]||E.is m [100,101,102,97,117,108,116]||E.ended m):=by
    unfold OX0;simp only [kX1,en_,nX9,nX8,Bool.not_true,Bool.false_or,Bool.or_false];cases E.is m [125] <;> cases E.is m [99,97,115,101] <;> cases E.is m [100,101,102,97,117,108,116] <;> cases E.ended m <;> rfl
   have bd:∀ (l:List Tr) (m q:Nat),Bd Gd q (bnd (iX0 (K'+1) (fun l s =>
  if OX0 E s then some ((false,l),s)
  else if nx E [59] s then bnd (ret 49 (-1) s.n [] s) fun z s=>bnd (tk E [59] s) fun _ s1=>some ((true,l++[z]),s1)
  else bnd (S' .stmt s) fun x s1=>if nx E [125] s1||ends E s1 then some ((true,l++[x]),s1) else bnd (tk E [59] s1) fun _ s2=>some ((true,l++[x]),s2)) l ⟨m,some q⟩) fun l s1=>some (xC 13 l n,s1)):=fun l m q=>by
    rw [cX0 (by simp [OX0,UX0]) Cs];exact Bd.some gg
   rw [e];simp only [hX0,aX0,ZQ9,wX0,CX3,mX0,Be,Ba,Bf];refine Sim.ite (fun _=>?_) (fun _=>Sim.ite (fun h=>?_) (fun _=>?_))
   ·have e2:xC 13 acc m=xC 13 acc n:=by
     exact zeo
    rw [e2];rfl
   ·simp only [h,Be];exact ih _ (m+1) K' Cs Cs (fun e=>Jb)
   ·refine (hR i Cs).call .stmt rfl trivial (fun x m2 _=>?_) (fun x m2 q _=>?_)
    ·simp only [wX0,en_,mX0,want,hX0,ZQ9,oA,mA,PA,Be];refine Sim.ite (fun _=>?_) (fun _=>Sim.ite (fun h=>?_) (fun _=>?_))
     ·exact ih _ m2 K' Cs Cs (fun e=>Jb)
     ·exact ih _ (m2+1) K' Cs Cs (fun e=>Jb)
     ·exact pX1 (bd _ _ _)
    ·simp only [VX0,en_,vX1,hX0,ZQ9,Be,ite_self];exact bd _ _ _
 exact lp k [] n K (C' _) Cs (fun _=>rfl)
theorem SX6:gX0 Gd (ZC E (spec E k) n false) (NX4 E S' ⟨n,none⟩):=by
 unfold ZC NX4;refine Sim.ite (fun h=>?_) (fun _=>?_)
 ·cases k with
  | zero=>trivial
  | succ k =>
   show gX0 Gd (lC (spec E k) n false) _
   unfold lC;have h':E.is n [105,109,112,111,114,116]=true∨E.is n [99,111,110,115,116]=true∨E.is n [118,97,114]=true∨E.is n [116,121,112,101]=true:=by
    exact zeb
   exact (hR k Cs).call .group ⟨rfl,h'⟩ trivial (fun x m _=>rfl) (fun x m q _=>Bd.some gg)
 refine lio (fun h=>?_) (fun h0=>li (fun h=>?_) (fun h1=>?_))
 ·exact zc2
 ·exact zc2
 rw [h0,h1];simp only [Ba,Bf];refine Sim.ite (fun h=>?_) (fun _=>?_)
 ·cases k with
  | zero=>trivial
  | succ k =>
   show gX0 Gd (oC E (spec E k) n false) _
   unfold oC;exact mn
 refine Sim.ite (fun h=>?_) (fun _=>?_)
 ·cases k with
  | zero=>trivial
  | succ k =>
   show gX0 Gd (UD E n) _
   unfold UD;have hl:E.named (n:Int)=false:=by
    simp only [Bv] at h;rcases h with ((h|h)|h)|h <;> exact isn h
   exact mn
 exact mn
theorem YX4 {kind:UInt8}{sort:Nat} (h:(kind=62/\(sort=1∨sort=2))∨(kind=64/\sort=3)):gX0 Gd (rD E (spec E k) kind sort n) (uX1 E (K+1) S' sort ⟨n,none⟩):=by
 have hkind:(if sort=3 then 64 else 62:UInt8)=kind:=by rcases h with ⟨rfl,rfl|rfl⟩|⟨rfl,rfl⟩ <;> rfl
 have hsort:sort=1∨sort=2∨sort=3:=Cs
 have hok:okN kind 2=true:=by rcases h with ⟨rfl,_⟩|⟨rfl,_⟩ <;> rfl
 have lp:∀ i acc m K',i<=k->i<=K'->gX0 Gd ((spec E i).t (.clausesMore kind sort acc) m false) (bnd (iX0 (K'+1) (fun l s =>
  if s.ok&&!nx E [125] s then
   bnd (if nx E [100,101,102,97,117,108,116] s then bnd (tk E [100,101,102,97,117,108,116] s) fun _ s1=>some (vA 0 s1.n,s1) else bnd (tk E [99,97,115,101] s) fun _ s1=>S' (.cased sort) s1) fun x s1 =>
   bnd (tk E [58] s1) fun _ s2=>bnd (S' .stmts s2) fun t s3=>bnd (ret (if sort=3 then 64 else 62) (-1) s.n [x,t] s3) fun z s4=>some ((true,l++[z]),s4)
  else some ((false,l),s)) acc ⟨m,none⟩) fun l s2=>bnd (tk E [125] s2) fun _ s3=>some (xC 25 l s2.n,s3)):=by
  rw [hkind];intro i
  induction i with
  | zero=>intros;trivial
  | succ i ih =>
   intro acc m K' hk hK';obtain⟨K',rfl⟩:∃ j,K'=j+1:=⟨K' - 1,Cs⟩
   show gX0 Gd (mB E (spec E i) kind sort acc m false) _
   unfold mB;rw [LX0];have bd:∀ (l:List Tr) (m q:Nat),Bd Gd q (bnd (iX0 (K'+1) (fun l s =>
  if s.ok&&!nx E [125] s then
   bnd (if nx E [100,101,102,97,117,108,116] s then bnd (tk E [100,101,102,97,117,108,116] s) fun _ s1=>some (vA 0 s1.n,s1) else bnd (tk E [99,97,115,101] s) fun _ s1=>S' (.cased sort) s1) fun x s1 =>
   bnd (tk E [58] s1) fun _ s2=>bnd (S' .stmts s2) fun t s3=>bnd (ret kind (-1) s.n [x,t] s3) fun z s4=>some ((true,l++[z]),s4)
  else some ((false,l),s)) l ⟨m,some q⟩) fun l s2=>bnd (tk E [125] s2) fun _ s3=>some (xC 25 l s2.n,s3)):=fun l m q=>by
    exact zdp
   have tl:∀ (x:Tr) (m2:Nat),gX0 Gd ((want E [58] m2).andThen fun _ n2=>((spec E i).t .stmts n2 false).andThen fun s n3=>(spec E i).t (.clausesMore kind sort (acc++[.mk kind (-1) m n3 [x,s]])) n3 false)
    (bnd (tk E [58] ⟨m2,none⟩) fun _ s2=>bnd (S' .stmts s2) fun t s3=>bnd (ret kind (-1) m [x,t] s3) fun z s4=>bnd (iX0 (K'+1) (fun l s =>
  if s.ok&&!nx E [125] s then
   bnd (if nx E [100,101,102,97,117,108,116] s then bnd (tk E [100,101,102,97,117,108,116] s) fun _ s1=>some (vA 0 s1.n,s1) else bnd (tk E [99,97,115,101] s) fun _ s1=>S' (.cased sort) s1) fun x s1 =>
   bnd (tk E [58] s1) fun _ s2=>bnd (S' .stmts s2) fun t s3=>bnd (ret kind (-1) s.n [x,t] s3) fun z s4=>some ((true,l++[z]),s4)
  else some ((false,l),s)) (acc++[z]) s4) fun l s2=>bnd (tk E [125] s2) fun _ s3=>some (xC 25 l s2.n,s3)):=by
    intro x m2;unfold want;rw [mX0,oA,hX0];refine Sim.ite (fun _=>?_) (fun _=>?_) <;> simp only [mA,PA,ZQ9]
    ·exact (hR i Cs).call .stmts trivial trivial (fun y m3 _=>ih _ m3 K' Cs Cs) (fun y m3 q _=>bd _ _ _)
    ·exact pX1 (hB.call .stmts rfl (fun y m3 _=>bd _ _ _))
   have tb:∀ (x:Tr) (m2 q:Nat),Bd Gd q (bnd (tk E [58] ⟨m2,some q⟩) fun _ s2=>bnd (S' .stmts s2) fun t s3=>bnd (ret kind (-1) m [x,t] s3) fun z s4=>bnd (iX0 (K'+1) (fun l s =>
  if s.ok&&!nx E [125] s then
   bnd (if nx E [100,101,102,97,117,108,116] s then bnd (tk E [100,101,102,97,117,108,116] s) fun _ s1=>some (vA 0 s1.n,s1) else bnd (tk E [99,97,115,101] s) fun _ s1=>S' (.cased sort) s1) fun x s1 =>
   bnd (tk E [58] s1) fun _ s2=>bnd (S' .stmts s2) fun t s3=>bnd (ret kind (-1) s.n [x,t] s3) fun z s4=>some ((true,l++[z]),s4)
  else some ((false,l),s)) (acc++[z]) s4) fun l s2=>bnd (tk E [125] s2) fun _ s3=>some (xC 25 l s2.n,s3)):=by
    intro x m2 q;simp only [vX1,ZQ9];exact hB.call .stmts rfl (fun y m3 _=>bd _ _ _)
   by_cases h1:E.is m [125]=true
   ·simp only [kX1,wX0,h1,Bool.not_true,Bool.and_false,Ba,Be,Bf,ZQ9,mX0]
    rfl
   ·have h1:E.is m [125]=false:=by simpa using h1
    simp only [kX1,wX0,h1,Bu,Bool.true_and,Ba,Be,Bf,aX0,ZQ9];by_cases h2:E.is m [100,101,102,97,117,108,116]=true
    ·simp only [h2,Be,mX0,ZQ9,mA];simpa only [mX0] using tl (vA 0 (m+1)) (m+1)
    ·have h2:E.is m [100,101,102,97,117,108,116]=false:=by simpa using h2
     simp only [h2,Ba,Bf];by_cases h3:E.is m [99,97,115,101]=true
     ·simp only [want,h3,Be,mA,mX0,ZQ9];refine (hR i Cs).call (.cased sort) ⟨rfl,hsort⟩ trivial (fun x m2 _=>?_) (fun x m2 q _=>?_)
      ·simpa only [want,mX0] using tl x m2
      ·simpa only [vX1] using tb x m2 q
     ·have h3:E.is m [99,97,115,101]=false:=by simpa using h3
      simp only [want,h3,Ba,Bf,PA,mX0,ZQ9];exact pX1 (hB.call (.cased sort) rfl (fun x m2 _=>tb x m2 _))
 unfold rD uX1 want;rw [mX0,oA,hX0];refine Sim.ite (fun _=>?_) (fun _=>?_) <;> simp only [mA,PA,ZQ9]
 ·exact lp k [] (n+1) K (C' _) Cs
 ·refine pX1 ?_;exact zdp
end
end Rf
namespace Rf
set_option linter.unusedSectionVars false
section
variable {E:Env}{K k n:Nat}{g:Bool}{S':RF->St->O Tr} (hR:∀ i,i<=k->Rel E (spec E i) S') (hB:BX3 S') (hK:k+10<=K) (hP:∀ x∈E.pair,-1<=x) (hN:Nn E S')
include hR hB hK hP hN
theorem hX6 {name imports:Tr}:∀ i acc m K',i<=k->i<=K'->gX0 Gd ((spec E i).t (.fileDecls name imports acc) m false) (bnd (iX0 (K'+1) (fun b s=>if s.ok&&am E s.n [[99,111,110,115,116],[118,97,114],[116,121,112,101],[102,117,110,99]] then bnd (if nx E [102,117,110,99] s then S' .fn s else S' .group s) fun x s=>bnd (tk E [59] s) fun _ s=>some ((true,b++[x]),s) else some ((false,b),s)) acc ⟨m,none⟩) fun b s=>ret 1 (-1) 0 [name,imports,xC 2 b s.n] s):=by
 intro i
 induction i with
 | zero=>intros;trivial
 | succ i ih =>
  intro acc m K' hk hK';obtain⟨K',rfl⟩:∃ j,K'=j+1:=⟨K' - 1,Cs⟩
  show gX0 Gd (eC E (spec E i) name imports acc m false) _
  have bd:∀ (l:List Tr) (m q:Nat),Bd Gd q (bnd (iX0 (K'+1) (fun b s=>if s.ok&&am E s.n [[99,111,110,115,116],[118,97,114],[116,121,112,101],[102,117,110,99]] then bnd (if nx E [102,117,110,99] s then S' .fn s else S' .group s) fun x s=>bnd (tk E [59] s) fun _ s=>some ((true,b++[x]),s) else some ((false,b),s)) l ⟨m,some q⟩) fun b s=>ret 1 (-1) 0 [name,imports,xC 2 b s.n] s):=fun l m q=>by
   rw [cX0 Gk Cs];exact mn
  have tl:∀ (x:Tr) (m:Nat),gX0 Gd ((want E [59] m).andThen fun _ n2=>(spec E i).t (.fileDecls name imports (acc++[x])) n2 false) (bnd (tk E [59] ⟨m,none⟩) fun _ s=>bnd (iX0 (K'+1) (fun b s=>if s.ok&&am E s.n [[99,111,110,115,116],[118,97,114],[116,121,112,101],[102,117,110,99]] then bnd (if nx E [102,117,110,99] s then S' .fn s else S' .group s) fun x s=>bnd (tk E [59] s) fun _ s=>some ((true,b++[x]),s) else some ((false,b),s)) (acc++[x]) s) fun b s=>ret 1 (-1) 0 [name,imports,xC 2 b s.n] s):=by
   intro x m;unfold want;rw [mX0,oA,hX0];refine Sim.ite (fun _=>?_) (fun _=>?_) <;> simp only [mA,PA,ZQ9]
   ·exact ih _ (m+1) K' Cs Cs
   ·exact pX1 (bd _ _ _)
  unfold eC;rw [LX0];have ham:am E (m:Int) [[99,111,110,115,116],[118,97,114],[116,121,112,101],[102,117,110,99]]=(E.is m [99,111,110,115,116]||(E.is m [118,97,114]||(E.is m [116,121,112,101]||E.is m [102,117,110,99]))):=by simp only [nX9,nX8,Bool.or_false]
  simp only [kX1,Bool.true_and,ham];by_cases h:(E.is m [99,111,110,115,116]||E.is m [118,97,114]||E.is m [116,121,112,101])=true
  ·have hg:E.is m [105,109,112,111,114,116]=true∨E.is m [99,111,110,115,116]=true∨E.is m [118,97,114]=true∨E.is m [116,121,112,101]=true:=by
    exact zeb
   have h2:(E.is m [99,111,110,115,116]||(E.is m [118,97,114]||(E.is m [116,121,112,101]||E.is m [102,117,110,99])))=true:=by
    simp only [Bv] at h ⊢;rcases h with (h|h)|h <;> simp [h]
   have h3:E.is m [102,117,110,99]=false:=by
    simp only [Bv] at h;rcases h with (h|h)|h <;> rw [isw h] <;> rfl
   rw [Bb h,Bb h2,wX0,h3,Bc Ct];simp only [aX0];refine (hR i Cs).call .group ⟨rfl,hg⟩ trivial (fun x m _=>?_) (fun x m q _=>?_)
   ·simp only [aX0,ZQ9,Be];exact tl x m
   ·exact zdm
  ·have hh:(E.is m [99,111,110,115,116]||(E.is m [118,97,114]||(E.is m [116,121,112,101]||E.is m [102,117,110,99])))=E.is m [102,117,110,99]:=by
    simp only [Bv,not_or,Bool.not_eq_true] at h;simp [h]
   rw [Bc h,hh,wX0];by_cases h2:E.is m [102,117,110,99]=true
   ·rw [Bb h2,Bb h2,Bb h2];simp only [aX0];refine (hR i Cs).call .fn rfl trivial (fun x m _=>?_) (fun x m q _=>?_)
    ·simp only [aX0,ZQ9,Be];exact tl x m
    ·exact zdm
   ·rw [Bc h2,Bc h2]
    rfl
theorem eX5 {name:Tr}:∀ i acc m K',i<=k->i<=K'->gX0 Gd ((spec E i).t (.fileImports name acc) m false) (bnd (iX0 (K'+1) (fun a s=>if nx E [105,109,112,111,114,116] s then bnd (S' .group s) fun x s=>bnd (tk E [59] s) fun _ s=>some ((true,a++[x]),s) else some ((false,a),s)) acc ⟨m,none⟩) fun a s1=>bnd (iX0 (K+1) (fun b s=>if s.ok&&am E s.n [[99,111,110,115,116],[118,97,114],[116,121,112,101],[102,117,110,99]] then bnd (if nx E [102,117,110,99] s then S' .fn s else S' .group s) fun x s=>bnd (tk E [59] s) fun _ s=>some ((true,b++[x]),s) else some ((false,b),s)) [] s1) fun b s=>ret 1 (-1) 0 [name,xC 2 a s1.n,xC 2 b s.n] s):=by
 intro i
 induction i with
 | zero=>intros;trivial
 | succ i ih =>
  intro acc m K' hk hK';obtain⟨K',rfl⟩:∃ j,K'=j+1:=⟨K' - 1,Cs⟩
  show gX0 Gd (lB E (spec E i) name acc m false) _
  have bd:∀ (l:List Tr) (m q:Nat),Bd Gd q (bnd (iX0 (K'+1) (fun a s=>if nx E [105,109,112,111,114,116] s then bnd (S' .group s) fun x s=>bnd (tk E [59] s) fun _ s=>some ((true,a++[x]),s) else some ((false,a),s)) l ⟨m,some q⟩) fun a s1=>bnd (iX0 (K+1) (fun b s=>if s.ok&&am E s.n [[99,111,110,115,116],[118,97,114],[116,121,112,101],[102,117,110,99]] then bnd (if nx E [102,117,110,99] s then S' .fn s else S' .group s) fun x s=>bnd (tk E [59] s) fun _ s=>some ((true,b++[x]),s) else some ((false,b),s)) [] s1) fun b s=>ret 1 (-1) 0 [name,xC 2 a s1.n,xC 2 b s.n] s):=fun l m q=>by
   exact zde
  unfold lB;rw [LX0];by_cases h:E.is m [105,109,112,111,114,116]=true
  ·simp only [wX0,h,Be,aX0];refine (hR i Cs).call .group ⟨rfl,.inl h⟩ trivial (fun x m _=>?_) (fun x m q _=>?_)
   ·unfold want;rw [mX0,oA,hX0];refine Sim.ite (fun _=>?_) (fun _=>?_) <;> simp only [mA,PA,ZQ9,Be]
    ·exact ih _ (m+1) K' Cs Cs
    ·exact pX1 (bd _ _ _)
   ·exact zdm
  ·have h:E.is m [105,109,112,111,114,116]=false:=by simpa using h
   simp only [wX0,h,Ba,Bf,ZQ9];exact hX6 hR hB hK hP hN i [] m K Cs Cs
theorem HX7:gX0 Gd (EF E (spec E k) n false) (MX4 E (K+1) S' ⟨n,none⟩):=by
 have b2:∀ (name:Tr) (m q:Nat),Bd Gd q (bnd (iX0 (K+1) (fun a s=>if nx E [105,109,112,111,114,116] s then bnd (S' .group s) fun x s=>bnd (tk E [59] s) fun _ s=>some ((true,a++[x]),s) else some ((false,a),s)) [] ⟨m,some q⟩) fun a s1=>bnd (iX0 (K+1) (fun b s=>if s.ok&&am E s.n [[99,111,110,115,116],[118,97,114],[116,121,112,101],[102,117,110,99]] then bnd (if nx E [102,117,110,99] s then S' .fn s else S' .group s) fun x s=>bnd (tk E [59] s) fun _ s=>some ((true,b++[x]),s) else some ((false,b),s)) [] s1) fun b s=>ret 1 (-1) 0 [name,xC 2 a s1.n,xC 2 b s.n] s):=fun name m q=>by
  exact zde
 unfold EF MX4 want;rw [mX0,oA,hX0];refine Sim.ite (fun _=>?_) (fun _=>?_) <;> simp only [mA,PA,ZQ9,kX4,vX1]
 ·rw [EX3,VX1,oA,hX0];refine Sim.ite (fun _=>?_) (fun _=>?_) <;> simp only [mA,PA,ZQ9,vX1]
  ·rw [mX0,oA,hX0];refine Sim.ite (fun _=>?_) (fun _=>?_) <;> simp only [mA,PA,ZQ9,vX1]
   ·exact eX5 hR hB hK hP hN k [] _ K (C' _) Cs
   ·exact pX1 (b2 _ _ _)
  ·exact pX1 (b2 _ _ _)
 ·exact pX1 (b2 _ _ _)
end
theorem nn (E:Env) (k:Nat) (hk:10<=k):Nn E (oX0 E k):=by
 obtain⟨k,rfl⟩:∃ j,k=j+1:=⟨k - 1,Cs⟩;have hN:∀ n:Nat,E.named (n:Int)=false->Bd Gd n (oX0 E (k+1) .named ⟨n,none⟩):=fun n h=>by
  rw [rs];simp only [CX0,PX2,VX1,h,Ba,Bf,ZQ9,VX0];exact Bd.some gg
 refine⟨hN,fun n h=>?_,fun n h=>?_⟩
 ·rw [rs];simp only [CX0,EX0,VX1,h,Ba,Bf,ZQ9];exact zcv
 ·rw [rs];have hi:=is_ h;simp only [CX0,IX5,kX1,en_,hi.2.1,hi.2.2,Bool.not_true,Bool.false_or,Ba,Bf,zX9,hi.1];exact Bd.some gg
theorem rX8 {E:Env} (hP:∀ x∈E.pair,-1<=x):∀ k k',k+10<=k'->Rel E (spec E k) (oX0 E k'):=by
 intro k
 induction k using Nat.strongRecOn with
 | ind k ih =>
 intro k' hk f g n hr hs;cases k with
 | zero=>trivial
 | succ k =>
 obtain⟨K,rfl⟩:∃ j,k'=j+1:=⟨k' - 1,Cs⟩;have hR:∀ i,i<=k->Rel E (spec E i) (oX0 E K):=fun i hi=>ih i Cs K Cs
 have hB:=PZ0 (E:=E) K Cs;have hN:=nn E K Cs;have hK:k+10<=K:=Cs
 show gX0 _ (DF E (spec E k) f n g) (CX0 E (K+1) (oX0 E K) (tr f g) ⟨n,none⟩)
 cases f with
 | file=>cases hr;exact HX7 hR hB hK hP hN
 | fn=>cases hr;exact YX8 hR hB hK hP hN
 | signature=>cases hr;exact QX3 hR hB hK hP hN
 | params=>cases hr;exact jX5 hR hB hK hP hN
 | tparams=>obtain⟨rfl,h⟩:=hr;exact AX4 hR hB hK hP hN h
 | names=>cases hr;exact rX6 hR hB hK hP hN
 | union=>cases hr;exact jX6 hR hB hK hP hN
 | typeName=>cases hr;exact oX4 hR hB hK hP hN
 | group=>obtain⟨rfl,h⟩:=hr;exact qX6 hR hB hK hP hN h
 | typ=>exact xX8 hR hB hK hP hN
 | row fr=>exact AX7 hR hB hK hP hN
 | exprs=>exact uX6 hR hB hK hP hN
 | expr=>exact dX7 hR hB hK hP hN
 | unary=>exact sX6 hR hB hK hP hN
 | operand=>exact ZX4 hR hB hK hP hN
 | primary=>exact TX4 hR hB hK hP hN
 | simple=>exact NX5 hR hB hK hP hN
 | rest fr l=>exact IX7 hR hB hK hP hN hs
 | elements=>exact nX4 hR hB hK hP hN
 | stmts=>exact tX6 hR hB hK hP hN
 | block=>exact yX6 hR hB hK hP hN
 | members kind o=>obtain⟨rfl,h⟩:=hr;exact QX4 hR hB hK hP hN h
 | dot fr x=>exact lX8 hR hB hK hP hN hr
 | call fr x=>cases hr;exact TX6 hR hB hK hP hN
 | value=>cases hr;exact yX5 hR hB hK hP hN
 | stmt=>cases hr;exact SX6 hR hB hK hP hN
 | index fr x=>obtain⟨rfl,h⟩:=hr;exact pX6 hR hB hK hP hN h
 | ifs=>obtain⟨rfl,h⟩:=hr;exact fX8 hR hB hK hP hN h
 | switches=>obtain⟨rfl,h⟩:=hr;exact tX4 hR hB hK hP hN h
 | selects=>obtain⟨rfl,h⟩:=hr;exact BX4 hR hB hK hP hN h
 | fors=>obtain⟨rfl,h⟩:=hr;exact pX7 hR hB hK hP hN h
 | clauses kind sort=>exact YX4 hR hB hK hP hN hr
 | cased sort=>obtain⟨rfl,h⟩:=hr;exact lX6 hR hB hK hP hN h
 | one o =>
  cases o with
  | param=>cases hr;exact HX6 hR hB hK hP hN
  | field=>cases hr;exact gX6 hR hB hK hP hN
  | elem=>cases hr;exact VX6 hR hB hK hP hN
  | importSpec=>cases hr;exact kX5 hR hB hK hP hN rfl
  | constSpec=>cases hr;exact MX6 hR hB hK hP hN rfl rfl rfl
  | valueSpec=>cases hr;exact AX6 hR hB hK hP hN rfl rfl rfl
  | typeSpec=>cases hr;exact wX4 hR hB hK hP hN rfl rfl
  | expr=>exact hr.elim
  | tparam=>exact hr.elim
  | typ=>exact hr.elim
  | element=>exact hr.elim
  | call=>exact hr.elim
 | fileImports=>exact hr.elim
 | fileDecls=>exact hr.elim
 | namesMore=>exact hr.elim
 | unionMore=>exact hr.elim
 | exprsMore=>exact hr.elim
 | types=>exact hr.elim
 | typesMore=>exact hr.elim
 | binary=>exact hr.elim
 | binMore=>exact hr.elim
 | primMore=>exact hr.elim
 | indexMore=>exact hr.elim
 | slice=>exact hr.elim
 | stmtsMore=>exact hr.elim
 | declared=>exact hr.elim
 | started=>exact hr.elim
 | returned=>exact hr.elim
 | branch=>exact hr.elim
 | clausesMore=>exact hr.elim
 | overall=>exact hr.elim
end Rf
namespace Rf
def PX5 (goal:UInt8):RF:=if goal=1 then .typ else if goal=2 then .expr false else if goal=3 then .stmts else .file
def bX1 (E:Env):Nat:=OC E+10
def QH (E:Env) (goal:UInt8) (s:St):St :=
 let s:=if goal<=2/\nx E [59] s=true/\s.n+1=E.l.length then s.up else s
 if ends E s then s else vX0 s
theorem FX7 (goal:UInt8):tr (IC goal) false=PX5 goal:=by
 unfold IC PX5
 repeat' split
 all_goals rfl
theorem XX3 (E:Env) (goal:UInt8):rel E (IC goal) false 0/\shF (IC goal):=by
 unfold IC
 repeat' split
 all_goals exact⟨by first|trivial|rfl,by first|trivial|exact True.intro⟩
theorem oX6 {E:Env} (hP:∀ x∈E.pair,-1<=x) (goal:UInt8):∃ t s,oX0 E (bX1 E) (PX5 goal) ⟨0,none⟩=some (t,s)/\(match FD E goal with
  | .ok u m=>(QH E goal s).b=none/\u=t/\m=(QH E goal s).n
  | .bad k=>(QH E goal s).b=some k
  | .out=>False):=by
 have h:=rX8 hP (OC E) (bX1 E) (C' _) (IC goal) false 0 (XX3 E goal).1 (XX3 E goal).2;rw [FX7] at h;unfold FD;have hne:=LL (E:=E) goal;cases hr:(spec E (OC E)).t (IC goal) 0 false with
 | out=>exact absurd hr hne
 | bad k =>
  rw [hr] at h;obtain⟨t,n,h1,_⟩:=h;refine⟨t,_,h1,?_⟩;have hn:nx E [59] ⟨n,some k⟩=false:=rfl
  show (QH E goal ⟨n,some k⟩).b=some k
  unfold QH;rw [hn];simp only [Ba,false_and,and_false,Bf];split <;> rfl
 | ok u n =>
  rw [hr] at h;refine⟨u,⟨n,none⟩,h,?_⟩
  show match DK E goal u n with|.ok u' m=>_|.bad k=>_|.out=>False
  have hn:nx E [59] ⟨n,none⟩=E.is n [59]:=by unfold nx;rfl
  unfold DK QH after ends;rw [hn];by_cases hg:goal<=2/\n+1=E.l.length
  ·rw [Bb hg];cases hi:E.is n [59] with
   | true =>
    simp only [Be,hg.1,hg.2,and_self];rw [<- hg.2];cases he:E.ended (n+1) <;> simp [St.up,vX0,he]
   | false =>
    simp only [Ba,Bf,false_and,and_false];cases he:E.ended n <;> simp [vX0,he]
  ·rw [Bc hg];have:¬ (goal<=2/\E.is n [59]=true/\n+1=E.l.length):=fun e=>hg ⟨e.1,e.2.2⟩
   simp only [this,Bf];cases he:E.ended n <;> simp [vX0,he]
end Rf
