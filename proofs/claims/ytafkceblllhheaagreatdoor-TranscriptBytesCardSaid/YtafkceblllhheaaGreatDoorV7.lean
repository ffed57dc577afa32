/- Whether a number is a square modulo the group's prime, told by Gauss's count; that the number is prime. -/
import Derived.Test.YtafkceblllhheaaGreatDoorV6
set_option linter.unusedSimpArgs false
set_option linter.unusedVariables false
set_option maxHeartbeats 1000000
set_option maxRecDepth 100000
namespace Go.Av
def fo {α:Type}(op:α->α->α)(e:α)(g:Nat->α):Nat->α
 | 0=>e
 | h+1=>op (fo op e g h) (g h)
section
variable {α:Type} {op:α->α->α} {e:α}
theorem yH {g g':Nat->α}:∀ (n:Nat),(∀ i,i < n->g i=g' i)->fo op e g n=fo op e g' n
 | 0,_=>rfl
 | n+1,h=>by simp only [fo];rw [yH n fun i hi=>h i (by omega),h n (by omega)]
theorem Ym (hc:∀ a b,op a b=op b a)(ha:∀ a b c,op (op a b) c=op a (op b c)){u v:Nat->α}(i0:Nat):∀ (n:Nat),i0 < n->(∀ i,i < n->i≠i0->u i=v i)->op (fo op e u n) (v i0)=op (fo op e v n) (u i0)
 | 0,h,_=>absurd h (by omega)
 | n + 1, h, hu => by
  simp only [fo];by_cases hi:i0=n
  ·subst hi;rw [yH (g:=u) (g':=v) i0 fun i hi=>hu i (by omega) (by omega),ha,hc (u i0),<- ha]
  ·have ih:=Ym hc ha i0 n (by omega) fun i h1 h2=>hu i (by omega) h2;have e1:u n=v n:=hu n (by omega) (fun h=>hi h.symm);rw [e1,ha,hc (v n),<- ha,ih,ha,hc (u i0),<- ha]
theorem Yp:∀ (m:Nat) (f:Nat->Nat),(∀ i,i < m+1->f i < m)->(∀ i j,i < m+1->j < m+1->f i=f j->i=j)->False
 | 0,f,h1,_=>by have:=h1 0 (by omega);omega
 | k + 1, f, h1, h2 => by
  refine Yp k (fun i=>if f i=k then f (k+1) else f i) ?_ ?_
  ·intro i hi;have a:=h1 i (by omega);have b:=h1 (k+1) (by omega);split
   ·rename_i e;have:f (k+1)≠k:=fun e2=>by have:=h2 i (k+1) (by omega) (by omega) (e.trans e2.symm);omega
    omega
   ·omega
  ·intro i j hi hj he;split at he
   ·rename_i e1;split at he
    ·rename_i e2;exact h2 i j (by omega) (by omega) (e1.trans e2.symm)
    ·have:=h2 (k+1) j (by omega) (by omega) he;omega
   ·split at he
    ·have:=h2 i (k+1) (by omega) (by omega) he;omega
    ·exact h2 i j (by omega) (by omega) he
theorem Hw (hc : ∀ a b, op a b = op b a)(ha : ∀ a b c, op (op a b) c = op a (op b c))(g : Nat -> α) : ∀ (n : Nat) (f : Nat -> Nat), (∀ i, i < n -> f i < n) -> (∀ i j, i < n -> j < n -> f i = f j -> i = j) -> fo op e (fun i => g (f i)) n = fo op e g n
 | 0,_,_,_=>rfl
 | n + 1, f, h1, h2 => by
  by_cases hf:f n=n
  ·simp only [fo];rw [hf, Hw hc ha g n f (fun i hi => by
    have:=h1 i (by omega);have:f i≠n:=fun he=>by have:=h2 i n (by omega) (by omega) (he.trans hf.symm);omega
    omega) (fun i j hi hj he=>h2 i j (by omega) (by omega) he)]
  ·have hex:∃ i0,i0 < n/\f i0=n:=by
    refine Classical.byContradiction fun hno=>Yp n f (fun i hi=>?_) h2;have a:=h1 i hi;have : f i ≠ n := fun he => by
     by_cases hin:i=n
     ·subst hin;exact hf he
     ·exact hno ⟨i,by omega,he⟩
    omega
   obtain ⟨i0,hi0,hfi⟩:=hex;have h3:=h1 n (by omega);have hv:∀ i,(if i=i0 then f n else f i)=if i=i0 then f n else f i:=fun _=>rfl
   have ih := Hw hc ha g n (fun i => if i = i0 then f n else f i) (fun i hi => by
    have a:=h1 i (by omega);have b:i≠i0->f i≠n:=fun hne he=>hne (h2 i i0 (by omega) (by omega) (he.trans hfi.symm));split
    ·omega
    ·rename_i h;have:=b h;omega) (fun i j hi hj he=>by
    split at he
    ·split at he
     ·omega
     ·have:=h2 n j (by omega) (by omega) he;omega
    ·split at he
     ·have:=h2 i n (by omega) (by omega) he;omega
     ·exact h2 i j (by omega) (by omega) he)
   have sw:=Ym (e:=e) hc ha (u:=fun i=>g (f i)) (v:=fun i=>g (if i=i0 then f n else f i)) i0 n hi0 (fun i _ hne=>by simp only [if_neg hne]);have sw:op (fo op e (fun i=>g (f i)) n) (g (f n))=op (fo op e (fun i=>g (if i=i0 then f n else f i)) n) (g (f i0)):=by simpa using sw
   simp only [fo];rw [sw,ih,hfi]
end
def sm (g:Nat->Nat)(n:Nat):Nat:=fo (· + ·) 0 g n
theorem sm_zero (g:Nat->Nat):sm g 0=0:=rfl
theorem sK (g:Nat->Nat)(n:Nat):sm g (n+1)=sm g n+g n:=rfl
theorem yJ {g g':Nat->Nat}(n:Nat)(h:∀ i,i < n->g i=g' i):sm g n=sm g' n:=yH n h
theorem ziC (g : Nat -> Nat)(n : Nat)(f : Nat -> Nat)(h1 : ∀ i, i < n -> f i < n)(h2 : ∀ i j, i < n -> j < n -> f i = f j -> i = j) : sm (fun i => g (f i)) n = sm g n :=
 Hw Nat.add_comm Nat.add_assoc g n f h1 h2
theorem sm_add (f g : Nat -> Nat) : ∀ n, sm (fun i => f i + g i) n = sm f n + sm g n
 | 0=>rfl
 | n+1=>by rw [sK,sK,sK,sm_add f g n];omega
theorem Xi (f g:Nat->Nat):∀ n,(∀ i,i < n->f i % 2=g i % 2)->sm f n % 2=sm g n % 2
 | 0,_=>rfl
 | n+1,h=>by have:=Xi f g n fun i hi=>h i (by omega);have:=h n (by omega);rw [sK,sK];omega
theorem DX (c : Nat) : ∀ n, sm (fun _ => c) n = n * c
 | 0=>by simp [sm_zero]
 | n+1=>by rw [sK,DX c n,Nat.succ_mul]
theorem Zk (f : Nat -> Nat -> Nat)(m : Nat) : ∀ n, sm (fun i => sm (fun j => f i j) m) n = sm (fun j => sm (fun i => f i j) n) m
 | 0 => by
  have:∀ m,sm (fun _=>0) m=0:=fun m=>by rw [DX,Nat.mul_zero]
  exact (this m).symm
 | n + 1 => by
  rw [sK,Zk f m n,<- sm_add];rfl
def I1 (n x:Nat):Nat:=if 2*(x % n) < n then 0 else 1
def R7 (n x:Nat):Nat:=if 2*(x % n) < n then x % n else n - x % n
def gN (n a:Nat):Nat:=sm (fun i=>I1 n (a*(i+1))) (n / 2)
theorem R9 {n a k : Nat}(hc : Nat.gcd a n = 1)(h0 : 0 < k)(hk : k < n) : a * k % n ≠ 0 := fun h => by
 have:n ∣ a*k:=Nat.dvd_of_mod_eq_zero h;have:=Nat.Coprime.dvd_of_dvd_mul_left (k:=n) (m:=a) (n:=k) (by rw [Nat.Coprime,Nat.gcd_comm];exact hc) this;have:=Nat.le_of_dvd h0 this;omega
theorem Bj {n x y:Nat}(h:x<=y)(he:x % n=y % n):n ∣ y - x:=by
 have:=Nat.sub_mod_eq_zero_of_mod_eq he.symm;exact Nat.dvd_of_mod_eq_zero this
theorem Zm {n a:Nat}(hn:n % 2=1)(hc:Nat.gcd a n=1){k l:Nat}(hk0:0 < k)(hk:k<=n / 2)(hl0:0 < l)(hl:l<=n / 2)(h:R7 n (a*k)=R7 n (a*l)):k=l:=by
 have hcop:Nat.Coprime n a:=by rw [Nat.Coprime,Nat.gcd_comm];exact hc
 have r1:=Nat.mod_lt (a*k) (show 0 < n by omega);have r2:=Nat.mod_lt (a*l) (show 0 < n by omega);have eq_case : ∀ k l, k <= l -> 0 < k -> l <= n / 2 -> a * k % n = a * l % n -> k = l := fun k l hkl hk0 hl he => by
  have hd:=Bj (n:=n) (Nat.mul_le_mul_left a hkl) he;rw [<- Nat.mul_sub] at hd;have hd2:=Nat.Coprime.dvd_of_dvd_mul_left hcop hd;rcases Nat.eq_zero_or_pos (l - k) with h0 | h0
  ·omega
  ·have:=Nat.le_of_dvd h0 hd2;omega
 have sum_case : a * k % n + a * l % n = n -> k = l := fun hs => by
  have hd:n ∣ a*k+a*l:=by
   refine Nat.dvd_of_mod_eq_zero ?_;rw [Nat.add_mod,hs,Nat.mod_self]
  rw [<- Nat.mul_add] at hd;have hd2:=Nat.Coprime.dvd_of_dvd_mul_left hcop hd;have:=Nat.le_of_dvd (by omega) hd2;omega
 unfold R7 at h;split at h
 ·split at h
  ·rcases Nat.le_total k l with hkl | hkl
   ·exact eq_case k l hkl hk0 hl h
   ·exact (eq_case l k hkl hl0 hk h.symm).symm
  ·exact sum_case (by omega)
 ·split at h
  ·exact sum_case (by omega)
  ·have he:a*k % n=a*l % n:=by omega
   rcases Nat.le_total k l with hkl | hkl
   ·exact eq_case k l hkl hk0 hl he
   ·exact (eq_case l k hkl hl0 hk he.symm).symm
theorem DZ {n a:Nat}(hn:n % 2=1)(hc:Nat.gcd a n=1){k:Nat}(hk0:0 < k)(hk:k<=n / 2):0 < R7 n (a*k)/\R7 n (a*k)<=n / 2:=by
 have h0:=R9 hc hk0 (show k < n by omega);have r1:=Nat.mod_lt (a*k) (show 0 < n by omega);unfold R7
 split <;> omega
theorem zfd {n a : Nat}(hn : n % 2 = 1)(hc : Nat.gcd a n = 1)(g : Nat -> Nat) : sm (fun i => g (R7 n (a * (i + 1)))) (n / 2) = sm (fun i => g (i + 1)) (n / 2) := by
 rw [<- ziC (fun i=>g (i+1)) (n / 2) (fun i=>R7 n (a*(i+1)) - 1)]
 ·refine yJ _ fun i hi=>?_;have:=DZ hn hc (k:=i+1) (by omega) (by omega);rw [show R7 n (a*(i+1)) - 1+1=R7 n (a*(i+1)) by omega]
 ·intro i hi;have:=DZ hn hc (k:=i+1) (by omega) (by omega);omega
 ·intro i j hi hj he;have h1:=DZ hn hc (k:=i+1) (by omega) (by omega);have h2:=DZ hn hc (k:=j+1) (by omega) (by omega);have:=Zm hn hc (k:=i+1) (l:=j+1) (by omega) (by omega) (by omega) (by omega) (by omega);omega
theorem zlQ (n x:Nat):I1 n x=0\/I1 n x=1:=by unfold I1;split <;> simp
theorem ziH {n x y:Nat}(hn:n % 2=1)(h0:x % n≠0)(hs:(x+y) % n=0):I1 n y=1 - I1 n x:=by
 have r1:=Nat.mod_lt x (show 0 < n by omega);have r2:=Nat.mod_lt y (show 0 < n by omega);rw [Nat.add_mod] at hs;have hd:=Nat.dvd_of_mod_eq_zero hs;obtain ⟨c,hcc⟩:=hd;have:c=1:=by
  rcases c with _ | _ | c
  ·omega
  ·rfl
  ·have:n*(c+1+1)>=n*2:=Nat.mul_le_mul_left n (by omega);omega
 subst this;unfold I1
 split <;> split <;> omega
theorem zlR {n:Nat}(hn:n % 2=1){a b:Nat}(ha:Nat.gcd a n=1)(hb:Nat.gcd b n=1):gN n (a*b) % 2=(gN n a+gN n b) % 2:=by
 have hab:Nat.gcd (a*b) n=1:=Nat.Coprime.mul_left ha hb;have key : gN n (a * b) % 2 = (sm (fun i => I1 n (a * R7 n (b * (i + 1))) + I1 n (b * (i + 1))) (n / 2)) % 2 := by
  unfold gN;refine Xi _ _ _ fun i hi=>?_;have h0:=R9 hab (k:=i+1) (by omega) (by omega);have r1:=Nat.mod_lt (b*(i+1)) (show 0 < n by omega);rw [Nat.mul_assoc] at h0 |-;generalize b*(i+1)=x at*;have e1:I1 n (a*(x % n))=I1 n (a*x):=by unfold I1;rw [Nat.mul_mod_mod]
  unfold R7;split
  ·rename_i h1;rw [e1,show I1 n x=0 by unfold I1;rw [if_pos h1],Nat.add_zero]
  ·rename_i h1;rw [show I1 n x=1 by unfold I1;rw [if_neg h1]];have e2:=ziH (n:=n) (x:=a*x) (y:=a*(n - x % n)) hn h0 (by
    rw [Nat.add_mod,<- Nat.mul_mod_mod,<- Nat.add_mod,<- Nat.mul_add,show x % n+(n - x % n)=n by omega,Nat.mul_mod_left])
   rw [e2]
   rcases zlQ n (a*x) with h | h <;> rw [h]
 rw [key,sm_add,zfd hn hb (fun y=>I1 n (a*y))];rfl
theorem zlS (n a b:Nat)(h:a % n=b % n):gN n a=gN n b:=by
 unfold gN;refine yJ _ fun i _=>?_;unfold I1;rw [Nat.mul_mod,h,<- Nat.mul_mod]
theorem ziJ (n : Nat) : n ≠ 0 -> gN n 0 = 0 := fun hn => by
 unfold gN;rw [yJ (g':=fun _=>0) _ fun i _=>by unfold I1;rw [Nat.zero_mul,Nat.zero_mod,if_pos (by omega)],DX,Nat.mul_zero]
theorem zfi (n : Nat)(hn : n % 2 = 1) : ∀ m, m <= n / 2 -> sm (fun i => I1 n (2 * (i + 1))) m = m - (if m < n / 4 then m else n / 4)
 | 0,_=>by simp [sm_zero]
 | m + 1, h => by
  rw [sK,zfi n hn m (by omega)];unfold I1;rw [Nat.mod_eq_of_lt (show 2*(m+1) < n by omega)]
  split <;> split <;> split <;> omega
theorem zlU {n:Nat}(hn:n % 2=1):gN n 2 % 2=if n % 8=3\/n % 8=5 then 1 else 0:=by
 unfold gN;rw [zfi n hn _ (Nat.le_refl _)]
 split <;> split <;> omega
theorem UT {n a : Nat}(hn : n % 2 = 1)(ha : a % 2 = 1)(hc : Nat.gcd a n = 1) : gN n a % 2 = sm (fun i => a * (i + 1) / n) (n / 2) % 2 := by
 have h1 : (sm (fun i => i + 1) (n / 2)) % 2 = (sm (fun i => (a * (i + 1) / n + I1 n (a * (i + 1))) + R7 n (a * (i + 1))) (n / 2)) % 2 := by
  refine Xi _ _ _ fun i hi=>?_;have e1:=Nat.div_add_mod (a*(i+1)) n;have r1:=Nat.mod_lt (a*(i+1)) (show 0 < n by omega);have e2:a*(i+1) % 2=(i+1) % 2:=by rw [Nat.mul_mod,ha,Nat.one_mul,Nat.mod_mod]
  generalize a*(i+1)=x at*;have e3:n*(x / n) % 2=x / n % 2:=by rw [Nat.mul_mod,hn,Nat.one_mul,Nat.mod_mod]
  generalize hq:x / n=q at*;generalize n*q=nq at*;unfold I1 R7
  split <;> omega
 have h2:=sm_add (fun i=>a*(i+1) / n+I1 n (a*(i+1))) (fun i=>R7 n (a*(i+1))) (n / 2);have h3:=sm_add (fun i=>a*(i+1) / n) (fun i=>I1 n (a*(i+1))) (n / 2);have h4:=zfd hn hc (fun y=>y);have h5:gN n a=sm (fun i=>I1 n (a*(i+1))) (n / 2):=rfl;omega
theorem UU (n x : Nat)(hn : 0 < n) : ∀ H, sm (fun j => if n * (j + 1) <= x then 1 else 0) H = if H < x / n then H else x / n
 | 0 => by
  rw [sm_zero];split
  ·rfl
  ·next h=>generalize x / n=q at*;omega
 | H + 1 => by
  rw [sK,UU n x hn H];have:n*(H+1)<=x↔H+1<=x / n:=by rw [Nat.le_div_iff_mul_le hn,Nat.mul_comm]
  by_cases h:H+1<=x / n
  ·rw [if_pos (this.2 h),if_pos (by omega)]
   split <;> omega
  ·rw [if_neg (fun q=>h (this.1 q)),if_neg (show ¬H < x / n by omega),if_neg (by omega)];rfl
theorem UW (m n : Nat)(hm : m % 2 = 1)(hn : n % 2 = 1) : sm (fun i => m * (i + 1) / n) (n / 2) = sm (fun i => sm (fun j => if n * (j + 1) <= m * (i + 1) then 1 else 0) (m / 2)) (n / 2) := by
 refine yJ _ fun i hi=>?_;rw [UU n _ (by omega)];have:m*(i+1) / n<=m / 2:=by
  have h1:m*(i+1) < (m / 2+1)*n:=by
   have a1:m*(i+1)<=m*(n / 2):=Nat.mul_le_mul_left m (by omega);have e1:n=2*(n / 2)+1:=by omega
   have e2:m=2*(m / 2)+1:=by omega
   generalize n / 2=u at*;generalize m / 2=v at*;subst e1;subst e2;have:(2*v+1)*u < (v+1)*(2*u+1):=by
    have:(2*v+1)*u=2*(v*u)+u:=by rw [Nat.add_mul,Nat.one_mul,Nat.mul_assoc]
    have:(v+1)*(2*u+1)=2*(v*u)+2*u+v+1:=by
     rw [Nat.add_mul,Nat.mul_add,Nat.one_mul,Nat.mul_left_comm,Nat.mul_one];omega
    omega
   omega
  have:=Nat.div_lt_of_lt_mul (m:=m*(i+1)) (n:=n) (k:=m / 2+1) (by rw [Nat.mul_comm n];exact h1);omega
 split <;> omega
theorem ziO {m n:Nat}(hm:m % 2=1)(hn:n % 2=1)(hc:Nat.gcd m n=1):(gN n m+gN m n) % 2=(m / 2)*(n / 2) % 2:=by
 have h1:=UT hn hm hc;have h2:=UT hm hn (by rw [Nat.gcd_comm];exact hc);have h3 : sm (fun i => m * (i + 1) / n) (n / 2) + sm (fun i => n * (i + 1) / m) (m / 2) = (m / 2) * (n / 2) := by
  rw [UW m n hm hn,UW n m hn hm,Zk (fun i j=>if m*(j+1)<=n*(i+1) then 1 else 0),<- sm_add];rw [yJ (g':=fun _=>m / 2),DX,Nat.mul_comm];intro i hi;rw [<- sm_add,yJ (g':=fun _=>1),DX,Nat.mul_one];intro j hj;have hne : m * (i + 1) ≠ n * (j + 1) := fun he => by
   have:n ∣ m*(i+1):=⟨j+1,he⟩;have:=Nat.Coprime.dvd_of_dvd_mul_left (k:=n) (m:=m) (n:=i+1) (by rw [Nat.Coprime,Nat.gcd_comm];exact hc) this;have:=Nat.le_of_dvd (by omega) this;omega
  split <;> split <;> omega
 omega
def pd (g:Nat->Nat)(n:Nat):Nat:=fo (·*·) 1 g n
theorem Bk (g:Nat->Nat)(n:Nat):pd g (n+1)=pd g n*g n:=rfl
theorem Sd (f g : Nat -> Nat) : ∀ n, pd (fun i => f i * g i) n = pd f n * pd g n
 | 0=>rfl
 | n+1=>by rw [Bk,Bk,Bk,Sd f g n,Nat.mul_mul_mul_comm]
theorem Xr (p:Nat)(f g:Nat->Nat):∀ n,(∀ i,i < n->f i % p=g i % p)->pd f n % p=pd g n % p
 | 0,_=>rfl
 | n+1,h=>by rw [Bk,Bk,Nat.mul_mod,Xr p f g n fun i hi=>h i (by omega),h n (by omega),<- Nat.mul_mod]
theorem Nl (c : Nat) : ∀ n, pd (fun _ => c) n = c ^ n
 | 0=>rfl
 | n+1=>by rw [Bk,Nl c n,Nat.pow_succ]
theorem zfw (c : Nat)(f : Nat -> Nat) : ∀ n, pd (fun i => c ^ f i) n = c ^ sm f n
 | 0=>rfl
 | n+1=>by rw [Bk,zfw c f n,sK,Nat.pow_add]
theorem Xt (p:Nat)(f:Nat->Nat):∀ n,(∀ i,i < n->Nat.gcd (f i) p=1)->Nat.gcd (pd f n) p=1
 | 0,_=>Nat.gcd_one_left p
 | n+1,h=>Nat.Coprime.mul_left (Xt p f n fun i hi=>h i (by omega)) (h n (by omega))
theorem Nm {p F x y:Nat}(hF:Nat.gcd F p=1)(h:x*F % p=y*F % p):x % p=y % p:=by
 have key : ∀ x y, x <= y -> x * F % p = y * F % p -> x % p = y % p := fun x y hxy h => by
  have hd:=Bj (n:=p) (Nat.mul_le_mul_right F hxy) h;rw [<- Nat.sub_mul] at hd;obtain ⟨c,hc⟩:=Nat.Coprime.dvd_of_dvd_mul_right (k:=p) (m:=y - x) (n:=F) (by rw [Nat.Coprime,Nat.gcd_comm];exact hF) hd;have:y=x+p*c:=by omega
  rw [this,Nat.add_mul_mod_self_left]
 rcases Nat.le_total x y with h1 | h1
 ·exact key x y h1 h
 ·exact (key y x h1 h.symm).symm
def sB (p:Nat):Prop:=1 < p/\∀ c,p ∣ c\/Nat.gcd c p=1
theorem sB.cop {p:Nat}(hp:sB p){k:Nat}(h0:0 < k)(hk:k < p):Nat.gcd k p=1:=by
 rcases hp.2 k with h | h
 ·have:=Nat.le_of_dvd h0 h;omega
 ·exact h
theorem Qx {p:Nat}(hp:1 < p):∀ g,(p - 1) ^ g % p=if g % 2=0 then 1 else p - 1
 | 0=>by rw [Nat.pow_zero,if_pos rfl,Nat.mod_eq_of_lt hp]
 | g + 1 => by
  rw [Nat.pow_succ,Nat.mul_mod,Qx hp g];by_cases h:g % 2=0
  ·rw [if_pos h,if_neg (by omega),Nat.one_mul,Nat.mod_mod,Nat.mod_eq_of_lt (by omega)]
  ·rw [if_neg h,if_pos (by omega),Nat.mod_eq_of_lt (show p - 1 < p by omega)];obtain ⟨q,rfl⟩:∃ q,p=q+1:=⟨p - 1,by omega⟩;rw [Nat.add_sub_cancel,show q*q=(q+1)*(q - 1)+1 by
    obtain ⟨r,rfl⟩:∃ r,q=r+1:=⟨q - 1,by omega⟩;rw [Nat.add_sub_cancel];simp only [Nat.add_mul,Nat.mul_add];omega,Nat.mul_add_mod,Nat.mod_eq_of_lt (by omega)]
theorem zfC {p:Nat}(hp:sB p)(h2:p % 2=1){a:Nat}(h0:0 < a)(ha:a < p):a ^ (p / 2) % p=if gN p a % 2=0 then 1 else p - 1:=by
 have hc:=hp.cop h0 ha;have e1 : pd (fun i => a * (i + 1)) (p / 2) % p = pd (fun i => (p - 1) ^ I1 p (a * (i + 1)) * R7 p (a * (i + 1))) (p / 2) % p := by
  refine Xr p _ _ _ fun i hi=>?_;have r1:=Nat.mod_lt (a*(i+1)) (show 0 < p by omega);generalize a*(i+1)=x at*;unfold I1 R7;split
  ·rw [Nat.pow_zero,Nat.one_mul,Nat.mod_mod]
  ·rw [Nat.pow_one];have:(p - 1)*(p - x % p)=p*(p - x % p - 1)+x % p:=by
    obtain ⟨d,hd⟩:∃ d,p - x % p=d+1:=⟨p - x % p - 1,by omega⟩;rw [hd,Nat.add_sub_cancel];obtain ⟨q,rfl⟩:∃ q,p=q+1:=⟨p - 1,by omega⟩;rw [Nat.add_sub_cancel];generalize x % (q+1)=y at*;simp only [Nat.add_mul,Nat.mul_add];omega
   rw [this,Nat.mul_add_mod,Nat.mod_mod]
 rw [Sd,Sd,Nl,zfw] at e1;have e2 : pd (fun i => R7 p (a * (i + 1))) (p / 2) = pd (fun i => i + 1) (p / 2) := by
  unfold pd;rw [<- Hw Nat.mul_comm Nat.mul_assoc (fun i=>i+1) (p / 2) (fun i=>R7 p (a*(i+1)) - 1)]
  ·refine yH _ fun i hi=>?_;have:=DZ h2 hc (k:=i+1) (by omega) (by omega);omega
  ·intro i hi;have:=DZ h2 hc (k:=i+1) (by omega) (by omega);omega
  ·intro i j hi hj he;have h1:=DZ h2 hc (k:=i+1) (by omega) (by omega);have h2':=DZ h2 hc (k:=j+1) (by omega) (by omega);have:=Zm h2 hc (k:=i+1) (l:=j+1) (by omega) (by omega) (by omega) (by omega) (by omega);omega
 rw [e2] at e1;have e3:=Nm (Xt p _ _ fun i hi=>hp.cop (k:=i+1) (by omega) (by omega)) e1;rw [e3];exact Qx hp.1 _
theorem zb1 {p:Nat}(hp:sB p)(h2:p % 2=1){a:Nat}(h0:0 < a)(ha:a < p):a ^ (p / 2) % p=1↔gN p a % 2=0:=by
 rw [zfC hp h2 h0 ha];have:=hp.1;split
 ·rename_i h;exact ⟨fun _=>h,fun _=>rfl⟩
 ·rename_i h;exact ⟨fun q=>by omega,fun q=>absurd q h⟩
end Go.Av
namespace Go.Av
theorem LN (n:Nat)(h:1 < n):∃ p,sB p/\p ∣ n:=by
 induction n using Nat.strongRecOn with
 | ind n ih=>
  by_cases hd:∃ d,1 < d/\d < n/\d ∣ n
  ·obtain ⟨d,h1,h2,h3⟩:=hd;obtain ⟨p,h4,h5⟩:=ih d h2 h1;exact ⟨p,h4,Nat.dvd_trans h5 h3⟩
  ·refine ⟨n,⟨h,fun c=>?_⟩,Nat.dvd_refl n⟩;have hg:=Nat.gcd_dvd_right c n;have hle:=Nat.le_of_dvd (by omega) hg;have hpos:=Nat.gcd_pos_of_pos_right c (show 0 < n by omega);by_cases h1:Nat.gcd c n=1
   ·exact .inr h1
   ·by_cases h2:Nat.gcd c n=n
    ·left
     have:=Nat.gcd_dvd_left c n
     rwa [h2] at this
    ·exact absurd ⟨Nat.gcd c n,by omega,by omega,hg⟩ hd
structure Clo (T:Nat->Prop):Prop where
 zero:T 0
 add:∀ a b,T a->T b->T (a+b)
 sub:∀ a b,T a->T (a+b)->T b
theorem Clo.mul {T:Nat->Prop}(h:Clo T){a:Nat}(ha:T a):∀ k,T (a*k)
 | 0=>h.zero
 | k+1=>by rw [Nat.mul_succ];exact h.add _ _ (h.mul ha k) ha
theorem Clo.gcd {T:Nat->Prop}(h:Clo T)(a b:Nat):T a->T b->T (Nat.gcd a b):=by
 induction a,b using Nat.gcd.induction with
 | H0 b=>intro _ hb;rwa [Nat.gcd_zero_left]
 | H1 a b ha ih=>
  intro h1 h2;rw [Nat.gcd_rec];refine ih ?_ h1;refine h.sub (a*(b / a)) (b % a) (h.mul h1 _) ?_
  rwa [Nat.div_add_mod]
theorem zcQ {q:Nat}(hq:sB q):∀ (k m g:Nat),g ∣ q ^ (k+1)*m->q ^ (k+1) ∣ g\/g ∣ q ^ k*m
 | 0, m, g, h => by
  rw [Nat.pow_one] at h |-;rcases hq.2 g with h1 | h1
  ·exact .inl h1
  ·right
   rw [Nat.pow_zero,Nat.one_mul];exact Nat.Coprime.dvd_of_dvd_mul_left h1 h
 | k + 1, m, g, h => by
  rcases hq.2 g with h1 | h1
  ·obtain ⟨g',rfl⟩:=h1;have hq0:0 < q:=by have:=hq.1;omega
   have h2:g' ∣ q ^ (k+1)*m:=by
    rw [show q ^ (k+1+1)*m=q*(q ^ (k+1)*m) by rw [Nat.pow_succ q (k+1),Nat.mul_comm (q ^ (k+1)) q,Nat.mul_assoc]] at h;exact Nat.dvd_of_mul_dvd_mul_left hq0 h
   rcases zcQ hq k m g' h2 with h3 | h3
   ·left;rw [Nat.pow_succ,Nat.mul_comm];exact Nat.mul_dvd_mul_left q h3
   ·right
    rw [show q ^ (k+1)*m=q*(q ^ k*m) by rw [Nat.pow_succ,Nat.mul_comm (q ^ k) q,Nat.mul_assoc]];exact Nat.mul_dvd_mul_left q h3
  ·right
   rw [show q ^ (k+1+1)*m=q*(q ^ (k+1)*m) by rw [Nat.pow_succ q (k+1),Nat.mul_comm (q ^ (k+1)) q,Nat.mul_assoc]] at h;exact Nat.Coprime.dvd_of_dvd_mul_left h1 h
theorem Clo.ord {T:Nat->Prop}(h:Clo T){q k m M:Nat}(hq:sB q)(h1:T (q ^ (k+1)*m))(h2:T M)(h3:¬T (q ^ k*m)):q ^ (k+1) ∣ M:=by
 have hg:=h.gcd _ _ h1 h2;rcases zcQ hq k m _ (Nat.gcd_dvd_left (q ^ (k+1)*m) M) with h4 | ⟨c,hc⟩
 ·exact Nat.dvd_trans h4 (Nat.gcd_dvd_right _ _)
 ·exact absurd (by rw [hc];exact h.mul hg c) h3
theorem zgR {p : Nat}(hp : 1 < p)(a : Nat) : Clo fun e => a ^ e % p = 1 where
 zero:=by show a ^ 0 % p=1;rw [Nat.pow_zero,Nat.mod_eq_of_lt hp]
 add:=fun x y hx hy=>by show a ^ (x+y) % p=1;rw [Nat.pow_add,Nat.mul_mod,hx,hy,Nat.mod_eq_of_lt (by omega)]
 sub := fun x y hx hy => by
  rw [Nat.pow_add,Nat.mul_mod,hx,Nat.one_mul,Nat.mod_mod] at hy;exact hy
theorem X9 {p:Nat}(hp:sB p){a:Nat}(ha:Nat.gcd a p=1):a ^ (p - 1) % p=1:=by
 have hp1:=hp.1;have hcop:Nat.Coprime p a:=by rw [Nat.Coprime,Nat.gcd_comm];exact ha
 have hnz:∀ i,i < p - 1->a*(i+1) % p≠0:=fun i hi=>R9 ha (by omega) (by omega);have e1:pd (fun i=>a*(i+1)) (p - 1) % p=pd (fun i=>a*(i+1) % p) (p - 1) % p:=Xr p _ _ _ fun i _=>(Nat.mod_mod _ _).symm;have e2 : pd (fun i => a * (i + 1) % p) (p - 1) = pd (fun i => i + 1) (p - 1) := by
  unfold pd;rw [<- Hw Nat.mul_comm Nat.mul_assoc (fun i=>i+1) (p - 1) (fun i=>a*(i+1) % p - 1)]
  ·refine yH _ fun i hi=>?_;have:=hnz i hi;omega
  ·intro i hi;have:=hnz i hi;have:=Nat.mod_lt (a*(i+1)) (show 0 < p by omega);omega
  ·intro i j hi hj he;have h1:=hnz i hi;have h2:=hnz j hj;have he:a*(i+1) % p=a*(j+1) % p:=by omega
   have key : ∀ i j, i <= j -> j < p - 1 -> a * (i + 1) % p = a * (j + 1) % p -> i = j := fun i j hij hj he => by
    have hd:=Bj (n:=p) (Nat.mul_le_mul_left a (show i+1<=j+1 by omega)) he;rw [<- Nat.mul_sub] at hd;have:=Nat.Coprime.dvd_of_dvd_mul_left hcop hd;rcases Nat.eq_zero_or_pos (j+1 - (i+1)) with h0 | h0
    ·omega
    ·have:=Nat.le_of_dvd h0 this;omega
   rcases Nat.le_total i j with h | h
   ·exact key i j h hj he
   ·exact (key j i h hi he.symm).symm
 rw [Sd,Nl,e2] at e1;have hF:=Xt p (fun i=>i+1) (p - 1) fun i hi=>hp.cop (by omega) (by omega);have:=Nm (x:=a ^ (p - 1)) (y:=1) hF (by rw [Nat.one_mul];exact e1);rw [this,Nat.mod_eq_of_lt hp1]
def bin:Nat->Nat->Nat
 | _,0=>1
 | 0,_+1=>0
 | n+1,k+1=>bin n k+bin n (k+1)
theorem CR (n:Nat):bin n 0=1:=by cases n <;> rfl
theorem F6:∀ (n k:Nat),n < k->bin n k=0
 | _,0,h=>absurd h (by omega)
 | 0,k+1,_=>rfl
 | n+1,k+1,h=>by rw [bin,F6 n k (by omega),F6 n (k+1) (by omega)]
theorem Te:∀ n,bin n n=1
 | 0=>rfl
 | n+1=>by rw [bin,Te n,F6 n (n+1) (by omega)]
theorem Hn:∀ (n k:Nat),(k+1)*bin (n+1) (k+1)=(n+1)*bin n k
 | 0,0=>rfl
 | 0,k+1=>by rw [F6 (0+1) (k+1+1) (by omega),F6 0 (k+1) (by omega)];simp
 | n + 1, 0 => by
  have h1:=Hn n 0;have e1:bin (n+1+1) (0+1)=bin (n+1) 0+bin (n+1) (0+1):=rfl;rw [e1,CR];rw [CR] at h1;omega
 | n + 1, k + 1 => by
  have h1:=Hn n k;have h2:=Hn n (k+1);have e1:bin (n+1+1) (k+1+1)=bin (n+1) (k+1)+bin (n+1) (k+1+1):=rfl;have e2:bin (n+1) (k+1)=bin n k+bin n (k+1):=rfl;rw [e1,Nat.mul_add,h2,Nat.add_mul (k+1) 1,h1,Nat.one_mul];rw [show (n+1+1)*bin (n+1) (k+1)=(n+1)*bin (n+1) (k+1)+bin (n+1) (k+1) by rw [Nat.add_mul,Nat.one_mul]];have e3:(n+1)*bin (n+1) (k+1)=(n+1)*bin n k+(n+1)*bin n (k+1):=by rw [e2,Nat.mul_add]
  omega
theorem Z3 {p:Nat}(hp:sB p){k:Nat}(h0:0 < k)(hk:k < p):p ∣ bin p k:=by
 obtain ⟨n,rfl⟩:∃ n,p=n+1:=⟨p - 1,by omega⟩;obtain ⟨j,rfl⟩:∃ j,k=j+1:=⟨k - 1,by omega⟩;have h1:n+1 ∣ (j+1)*bin (n+1) (j+1):=by rw [Hn];exact Nat.dvd_mul_right _ _
 have h2:=hp.cop (k:=j+1) (by omega) hk;exact Nat.Coprime.dvd_of_dvd_mul_left (by rw [Nat.Coprime,Nat.gcd_comm];exact h2) h1
def pw1 (n:Nat):Nat->Nat->Nat->Nat
 | 0,_,_=>1 % n
 | f+1,b,e=>if e=0 then 1 % n else if e % 2=1 then pw1 n f b (e / 2)*pw1 n f b (e / 2) % n*b % n else pw1 n f b (e / 2)*pw1 n f b (e / 2) % n
theorem XC (n:Nat):∀ (f b e:Nat),e < 2 ^ f->pw1 n f b e=b ^ e % n
 | 0, b, e, h => by
  have:e=0:=by simpa using h
  subst this;rfl
 | f + 1, b, e, h => by
  unfold pw1;by_cases h0:e=0
  ·rw [if_pos h0,h0];rfl
  ·rw [if_neg h0,XC n f b (e / 2) (by rw [Nat.pow_succ] at h;omega)];have e1:b ^ (e / 2) % n*(b ^ (e / 2) % n) % n=b ^ (e / 2+e / 2) % n:=by rw [<- Nat.mul_mod,<- Nat.pow_add]
   split
   ·rw [e1,Nat.mod_mul_mod,<- Nat.pow_succ]
    congr 2;omega
   ·rw [e1]
    congr 2;omega
def Fl:List (Nat × Nat)->Nat
 | []=>1
 | x :: l=>x.1 ^ (x.2+1)*Fl l
def zfM:List (Nat × Nat)->Bool
 | []=>true
 | x :: l=>Nat.gcd (x.1 ^ (x.2+1)) (Fl l)==1&&zfM l
theorem Np (M:Nat):∀ l:List (Nat × Nat),zfM l=true->(∀ x∈l,x.1 ^ (x.2+1) ∣ M)->Fl l ∣ M
 | [],_,_=>Nat.one_dvd M
 | x :: l, hc, h => by
  simp only [zfM,Bool.and_eq_true,beq_iff_eq] at hc;exact Nat.Coprime.mul_dvd_of_dvd_of_dvd hc.1 (h x (by simp)) (Np M l hc.2 fun y hy=>h y (by simp [hy]))
theorem Qz {n q k:Nat}(h0:0 < q)(h:n % q ^ (k+1)=0):n=q ^ (k+1)*(n / q ^ (k+1))/\q ^ k*(n / q ^ (k+1))=n / q:=by
 have h1:n=q ^ (k+1)*(n / q ^ (k+1)):=(Nat.mul_div_cancel' (Nat.dvd_of_mod_eq_zero h)).symm;refine ⟨h1,?_⟩;generalize n / q ^ (k+1)=m at*;rw [h1,Nat.pow_succ,Nat.mul_comm (q ^ k) q,Nat.mul_assoc,Nat.mul_div_cancel_left _ h0]
def zl6 (N f a:Nat)(l:List (Nat × Nat)):Bool:=
 pw1 N f a (N - 1)==1&&zfM l&&l.all fun x=>(N - 1) % x.1 ^ (x.2+1)==0&&Nat.gcd (pw1 N f a ((N - 1) / x.1)+N - 1) N==1
theorem zi2 {N f a:Nat}{l:List (Nat × Nat)}(hN:1 < N)(hf:N < 2 ^ f)(hc:zl6 N f a l=true)(hq:∀ x∈l,sB x.1){p:Nat}(hp:sB p)(hd:p ∣ N):Fl l ∣ p - 1:=by
 simp only [zl6,Bool.and_eq_true,beq_iff_eq,List.all_eq_true] at hc;obtain ⟨⟨h1,h2⟩,h3⟩:=hc;have hp1:=hp.1;rw [XC N f a (N - 1) (by omega)] at h1;have hT:a ^ (N - 1) % p=1:=by rw [<- Nat.mod_mod_of_dvd _ hd,h1,Nat.mod_eq_of_lt hp1]
 have hap:Nat.gcd a p=1:=by
  rcases hp.2 a with h | h
  ·exfalso;have:p ∣ a ^ (N - 1):=Nat.dvd_trans h ⟨a ^ (N - 2),by rw [Nat.mul_comm,<- Nat.pow_succ];congr 1;omega⟩;rw [Nat.mod_eq_zero_of_dvd this] at hT;omega
  ·exact h
 refine Np _ l h2 fun x hx=>?_;obtain ⟨h4,h5⟩:=h3 x hx;have hx1:=(hq x hx).1;obtain ⟨e1,e2⟩:=Qz (by omega) h4;refine (zgR hp1 a).ord (hq x hx) (m:=(N - 1) / x.1 ^ (x.2+1)) (by rw [<- e1];exact hT) (X9 hp hap) fun hno=>?_;rw [e2] at hno;rw [XC N f a _ (Nat.lt_of_le_of_lt (Nat.div_le_self _ _) (by omega))] at h5;have hd1:p ∣ a ^ ((N - 1) / x.1) % N+N - 1:=by
  have:(a ^ ((N - 1) / x.1) % N) % p=1:=by rw [Nat.mod_mod_of_dvd _ hd];exact hno
  generalize a ^ ((N - 1) / x.1) % N=y at*;have hy:1<=y:=by
   rcases Nat.eq_zero_or_pos y with h | h
   ·subst h;simp at this
   ·exact h
  have h6:=Nat.sub_mod_eq_zero_of_mod_eq (m:=y) (k:=p) (n:=1) (by rw [this,Nat.mod_eq_of_lt hp1]);rw [show y+N - 1=(y - 1)+N by omega];exact Nat.dvd_add (Nat.dvd_of_mod_eq_zero h6) hd
 have:=Nat.dvd_gcd hd1 hd;rw [h5] at this;have:=Nat.le_of_dvd (by omega) this;omega
structure V7 where
 a0:Nat
 a1:Nat
 a2:Nat
 a3:Nat
 a4:Nat
 a5:Nat
 a6:Nat
deriving DecidableEq
namespace V7
theorem ext7 {x y:V7}(h0:x.a0=y.a0)(h1:x.a1=y.a1)(h2:x.a2=y.a2)(h3:x.a3=y.a3)(h4:x.a4=y.a4)(h5:x.a5=y.a5)(h6:x.a6=y.a6):x=y:=by
 cases x;cases y;simp_all
def mul (x y:V7):V7:=⟨
 x.a0*y.a0+x.a1*y.a6+x.a2*y.a5+x.a3*y.a4+x.a4*y.a3+x.a5*y.a2+x.a6*y.a1,
 x.a0*y.a1+x.a1*y.a0+x.a2*y.a6+x.a3*y.a5+x.a4*y.a4+x.a5*y.a3+x.a6*y.a2,
 x.a0*y.a2+x.a1*y.a1+x.a2*y.a0+x.a3*y.a6+x.a4*y.a5+x.a5*y.a4+x.a6*y.a3,
 x.a0*y.a3+x.a1*y.a2+x.a2*y.a1+x.a3*y.a0+x.a4*y.a6+x.a5*y.a5+x.a6*y.a4,
 x.a0*y.a4+x.a1*y.a3+x.a2*y.a2+x.a3*y.a1+x.a4*y.a0+x.a5*y.a6+x.a6*y.a5,
 x.a0*y.a5+x.a1*y.a4+x.a2*y.a3+x.a3*y.a2+x.a4*y.a1+x.a5*y.a0+x.a6*y.a6,
 x.a0*y.a6+x.a1*y.a5+x.a2*y.a4+x.a3*y.a3+x.a4*y.a2+x.a5*y.a1+x.a6*y.a0⟩
def add (x y:V7):V7:=⟨x.a0+y.a0,x.a1+y.a1,x.a2+y.a2,x.a3+y.a3,x.a4+y.a4,x.a5+y.a5,x.a6+y.a6⟩
def sm (c:Nat)(x:V7):V7:=⟨c*x.a0,c*x.a1,c*x.a2,c*x.a3,c*x.a4,c*x.a5,c*x.a6⟩
def one:V7:=⟨1,0,0,0,0,0,0⟩
def zero:V7:=⟨0,0,0,0,0,0,0⟩
theorem mul_comm (x y:V7):mul x y=mul y x:=by apply ext7 <;> simp only [mul] <;> grind
theorem mul_assoc (x y z:V7):mul (mul x y) z=mul x (mul y z):=by apply ext7 <;> simp only [mul] <;> grind
theorem mul_one (x:V7):mul x one=x:=by apply ext7 <;> simp [mul,one]
theorem add_comm (x y:V7):add x y=add y x:=by apply ext7 <;> simp only [add] <;> omega
theorem add_assoc (x y z:V7):add (add x y) z=add x (add y z):=by apply ext7 <;> simp only [add] <;> omega
theorem add_zero (x:V7):add x zero=x:=by apply ext7 <;> simp [add,zero]
theorem zero_add (x:V7):add zero x=x:=by apply ext7 <;> simp [add,zero]
theorem mul_add (c x y:V7):mul c (add x y)=add (mul c x) (mul c y):=by apply ext7 <;> simp only [mul,add] <;> grind
theorem mul_zero (c:V7):mul c zero=zero:=by apply ext7 <;> simp [mul,zero]
theorem sm_zero (x:V7):sm 0 x=zero:=by apply ext7 <;> simp [sm,zero]
theorem sm_one (x:V7):sm 1 x=x:=by apply ext7 <;> simp [sm]
theorem sm_add (a b:Nat)(x:V7):sm (a+b) x=add (sm a x) (sm b x):=by apply ext7 <;> simp only [sm,add] <;> grind
theorem mul_sm (c:Nat)(x y:V7):mul x (sm c y)=sm c (mul x y):=by apply ext7 <;> simp only [sm,mul] <;> grind
end V7
def en (x:V7):Nat->V7
 | 0=>V7.one
 | n+1=>V7.mul (en x n) x
theorem vp (x:V7)(a:Nat):∀ b,en x (a+b)=V7.mul (en x a) (en x b)
 | 0=>by rw [en,V7.mul_one];rfl
 | b+1=>by rw [<- Nat.add_assoc,en,vp x a b,en,V7.mul_assoc]
def LP (g:Nat->V7)(n:Nat):V7:=fo V7.add V7.zero g n
theorem m7 (g:Nat->V7)(n:Nat):LP g (n+1)=V7.add (LP g n) (g n):=rfl
theorem ZW {f g:Nat->V7}(n:Nat)(h:∀ i,i < n->f i=g i):LP f n=LP g n:=yH n h
theorem Ya (f g : Nat -> V7) : ∀ n, LP (fun i => V7.add (f i) (g i)) n = V7.add (LP f n) (LP g n)
 | 0=>rfl
 | n + 1 => by
  rw [m7,m7,m7,Ya f g n]
  apply V7.ext7 <;> simp only [V7.add] <;> omega
theorem QS (c : V7)(f : Nat -> V7) : ∀ n, LP (fun i => V7.mul c (f i)) n = V7.mul c (LP f n)
 | 0=>(V7.mul_zero c).symm
 | n+1=>by rw [m7,m7,QS c f n,V7.mul_add]
theorem Hm (g : Nat -> V7) : ∀ n, LP g (n + 1) = V7.add (g 0) (LP (fun i => g (i + 1)) n)
 | 0=>by rw [m7];exact V7.add_comm _ _
 | n+1=>by rw [m7,Hm g n,m7,V7.add_assoc]
def ou (x y:V7)(n k:Nat):V7:=V7.sm (bin n k) (V7.mul (en x (n - k)) (en y k))
theorem Yb (x y:V7)(n:Nat):ou x y n (n+1)=V7.zero:=by unfold ou;rw [F6 n (n+1) (by omega),V7.sm_zero]
theorem zcM (x y:V7):∀ n,en (V7.add x y) n=LP (ou x y n) (n+1)
 | 0 => by
  show V7.one=V7.add V7.zero (V7.sm 1 (V7.mul V7.one V7.one));rw [V7.zero_add,V7.sm_one,V7.mul_one]
 | n + 1 => by
  have ih:=zcM x y n;have step : ∀ j, j < n + 1 -> ou x y (n + 1) (j + 1) = V7.add (V7.mul y (ou x y n j)) (V7.mul x (ou x y n (j + 1))) := fun j hj => by
   have e1:bin (n+1) (j+1)=bin n j+bin n (j+1):=rfl;have a1:V7.sm (bin n j) (V7.mul (en x (n+1 - (j+1))) (en y (j+1)))=V7.mul y (ou x y n j):=by
    unfold ou;rw [V7.mul_sm,en,show n+1 - (j+1)=n - j by omega]
    congr 1
    rw [<- V7.mul_assoc,V7.mul_comm y]
   have a2:V7.sm (bin n (j+1)) (V7.mul (en x (n+1 - (j+1))) (en y (j+1)))=V7.mul x (ou x y n (j+1)):=by
    by_cases hjn:j=n
    ·subst hjn;rw [Yb,V7.mul_zero,F6 j (j+1) (by omega),V7.sm_zero]
    ·unfold ou;rw [V7.mul_sm,show n+1 - (j+1)=n - (j+1)+1 by omega,en]
     congr 1
     rw [V7.mul_comm (en x (n - (j+1))) x,V7.mul_assoc]
   unfold ou at a1 a2 |-;rw [e1,V7.sm_add,a1,a2]
  have hR : LP (ou x y (n + 1)) (n + 1 + 1) = V7.add (ou x y (n + 1) 0) (V7.add (V7.mul y (LP (ou x y n) (n + 1))) (V7.mul x (LP (fun j => ou x y n (j + 1)) (n + 1)))) := by
   rw [Hm,ZW (n+1) step,Ya,QS,QS]
  rw [en,ih,hR];have h0:ou x y (n+1) 0=V7.mul x (ou x y n 0):=by
   unfold ou;rw [V7.mul_sm,CR,CR,V7.sm_one,V7.sm_one,Nat.sub_zero,Nat.sub_zero,en];show V7.mul (V7.mul (en x n) x) V7.one=V7.mul x (V7.mul (en x n) V7.one);rw [V7.mul_one,V7.mul_one,V7.mul_comm]
  have h1 : V7.add (ou x y (n + 1) 0) (V7.mul x (LP (fun j => ou x y n (j + 1)) (n + 1))) = V7.mul x (LP (ou x y n) (n + 1)) := by
   rw [h0,<- V7.mul_add,<- Hm,m7,Yb,V7.add_zero]
  rw [V7.mul_comm (LP (ou x y n) (n+1)) (V7.add x y),V7.mul_comm (V7.add x y),V7.mul_add,V7.mul_comm _ x,V7.mul_comm _ y,<- h1];generalize V7.mul x (LP (fun j=>ou x y n (j+1)) (n+1))=X;generalize V7.mul y (LP (ou x y n) (n+1))=Y
  apply V7.ext7 <;> simp only [V7.add] <;> omega
def mA (p:Nat)(x y:V7):Prop:=x.a0 % p=y.a0 % p/\x.a1 % p=y.a1 % p/\x.a2 % p=y.a2 % p/\x.a3 % p=y.a3 % p/\x.a4 % p=y.a4 % p/\x.a5 % p=y.a5 % p/\x.a6 % p=y.a6 % p
theorem mA.refl (p:Nat)(x:V7):mA p x x:=⟨rfl,rfl,rfl,rfl,rfl,rfl,rfl⟩
theorem mA.symm {p:Nat}{x y:V7}(h:mA p x y):mA p y x:=⟨h.1.symm,h.2.1.symm,h.2.2.1.symm,h.2.2.2.1.symm,h.2.2.2.2.1.symm,h.2.2.2.2.2.1.symm,h.2.2.2.2.2.2.symm⟩
theorem mA.trans {p:Nat}{x y z:V7}(h:mA p x y)(k:mA p y z):mA p x z:=
 ⟨h.1.trans k.1,h.2.1.trans k.2.1,h.2.2.1.trans k.2.2.1,h.2.2.2.1.trans k.2.2.2.1,h.2.2.2.2.1.trans k.2.2.2.2.1,h.2.2.2.2.2.1.trans k.2.2.2.2.2.1,h.2.2.2.2.2.2.trans k.2.2.2.2.2.2⟩
theorem Tm {p:Nat}(hp:sB p)(a:Nat):a ^ p % p=a % p:=by
 have hp1:=hp.1;have e:a ^ p=a ^ (p - 1)*a:=by rw [<- Nat.pow_succ];congr 1;omega
 rcases hp.2 a with h | h
 ·rw [e,Nat.mul_mod,Nat.mod_eq_zero_of_dvd h,Nat.mul_zero,Nat.zero_mod]
 ·rw [e,Nat.mul_mod,X9 hp h,Nat.one_mul,Nat.mod_mod]
theorem mmP {p a a' b b':Nat}(h:a % p=a' % p)(k:b % p=b' % p):(a*b) % p=(a'*b') % p:=by rw [Nat.mul_mod,h,k,<- Nat.mul_mod]
theorem Z6 {p a a' b b':Nat}(h:a % p=a' % p)(k:b % p=b' % p):(a+b) % p=(a' + b') % p:=by rw [Nat.add_mod,h,k,<- Nat.add_mod]
theorem mA.add {p:Nat}{x x' y y':V7}(h:mA p x x')(k:mA p y y'):mA p (V7.add x y) (V7.add x' y'):=by
 obtain ⟨h0,h1,h2,h3,h4,h5,h6⟩:=h;obtain ⟨k0,k1,k2,k3,k4,k5,k6⟩:=k;exact ⟨Z6 h0 k0,Z6 h1 k1,Z6 h2 k2,Z6 h3 k3,Z6 h4 k4,Z6 h5 k5,Z6 h6 k6⟩
theorem mA.mul {p:Nat}{x x' y y':V7}(h:mA p x x')(k:mA p y y'):mA p (V7.mul x y) (V7.mul x' y'):=by
 obtain ⟨h0,h1,h2,h3,h4,h5,h6⟩:=h;obtain ⟨k0,k1,k2,k3,k4,k5,k6⟩:=k
 refine ⟨?_,?_,?_,?_,?_,?_,?_⟩ <;> (refine Z6 (Z6 (Z6 (Z6 (Z6 (Z6 (mmP ?_ ?_) (mmP ?_ ?_)) (mmP ?_ ?_)) (mmP ?_ ?_)) (mmP ?_ ?_)) (mmP ?_ ?_)) (mmP ?_ ?_) <;> assumption)
theorem Yf {p:Nat}{g:Nat->V7}:∀ n,(∀ i,i < n->mA p (g i) V7.zero)->mA p (LP g n) V7.zero
 | 0,_=>mA.refl p _
 | n + 1, h => by
  rw [m7];exact (mA.add (Yf n fun i hi=>h i (by omega)) (h n (by omega))).trans (by rw [V7.add_zero];exact mA.refl p _)
theorem znR {p:Nat}(hp:sB p)(x y:V7):mA p (en (V7.add x y) p) (V7.add (en x p) (en y p)):=by
 have hp1:=hp.1;obtain ⟨n,hn⟩:∃ n,p=n+1:=⟨p - 1,by omega⟩;rw [zcM,m7];have e1 : LP (ou x y p) p = V7.add (ou x y p 0) (LP (fun i => ou x y p (i + 1)) n) := by
  conv=>lhs;arg 2;rw [hn]
  exact Hm _ n
 have e2:ou x y p 0=en x p:=by
  unfold ou;rw [CR,V7.sm_one,Nat.sub_zero];exact V7.mul_one _
 have e3:ou x y p p=en y p:=by
  unfold ou;rw [Te,V7.sm_one,Nat.sub_self,V7.mul_comm];exact V7.mul_one _
 rw [e1,e2,e3];refine mA.add ?_ (mA.refl p _);have := Yf (p := p) (g := fun i => ou x y p (i + 1)) n fun i hi => by
  obtain ⟨c,hc⟩:=Z3 hp (k:=i+1) (by omega) (by omega);unfold ou;rw [hc];exact ⟨by simp [V7.sm,V7.zero,Nat.mul_assoc],by simp [V7.sm,V7.zero,Nat.mul_assoc],by simp [V7.sm,V7.zero,Nat.mul_assoc],by simp [V7.sm,V7.zero,Nat.mul_assoc],by simp [V7.sm,V7.zero,Nat.mul_assoc],by simp [V7.sm,V7.zero,Nat.mul_assoc],by simp [V7.sm,V7.zero,Nat.mul_assoc]⟩
 exact (mA.add (mA.refl p _) this).trans (by rw [V7.add_zero];exact mA.refl p _)
theorem zcS {p : Nat}(x : V7) : Clo fun e => mA p (en x e) V7.one where
 zero:=mA.refl p _
 add := fun a b ha hb => by
  show mA p (en x (a+b)) V7.one;rw [vp];exact (mA.mul ha hb).trans (by rw [V7.mul_one];exact mA.refl p _)
 sub := fun a b ha hb => by
  have h1:mA p (en x (a+b)) V7.one:=hb;rw [vp] at h1;have h2:=mA.mul ha (mA.refl p (en x b));rw [V7.mul_comm V7.one,V7.mul_one] at h2;exact h2.symm.trans h1
def sg7 (x:V7):V7:=⟨x.a0,x.a3,x.a6,x.a2,x.a5,x.a1,x.a4⟩
theorem zkq (x y:V7):sg7 (V7.mul x y)=V7.mul (sg7 x) (sg7 y):=by apply V7.ext7 <;> simp only [sg7,V7.mul] <;> omega
theorem zcV (x:V7):∀ n,sg7 (en x n)=en (sg7 x) n
 | 0=>rfl
 | n+1=>by rw [en,zkq,zcV x n];rfl
theorem mA.sg7 {p:Nat}{x y:V7}(h:mA p x y):mA p (sg7 x) (Av.sg7 y):=by
 obtain ⟨h0,h1,h2,h3,h4,h5,h6⟩:=h;exact ⟨h0,h3,h6,h2,h5,h1,h4⟩
def sgi:Nat->V7->V7
 | 0,x=>x
 | i+1,x=>sg7 (sgi i x)
def mo (j c:Nat):V7:=⟨if j % 7=0 then c else 0,if j % 7=1 then c else 0,if j % 7=2 then c else 0,if j % 7=3 then c else 0,if j % 7=4 then c else 0,if j % 7=5 then c else 0,if j % 7=6 then c else 0⟩
theorem Ja (j c:Nat):mo (j % 7) c=mo j c:=by simp [mo]
theorem zg2 (i j a b:Nat)(hi:i < 7)(hj:j < 7):V7.mul (mo i a) (mo j b)=mo (i+j) (a*b):=by
 rcases (show i=0\/i=1\/i=2\/i=3\/i=4\/i=5\/i=6 by omega) with rfl | rfl | rfl | rfl | rfl | rfl | rfl <;>
 rcases (show j=0\/j=1\/j=2\/j=3\/j=4\/j=5\/j=6 by omega) with rfl | rfl | rfl | rfl | rfl | rfl | rfl <;>
 simp [mo,V7.mul]
theorem zkr (i j a b:Nat):V7.mul (mo i a) (mo j b)=mo (i+j) (a*b):=by
 rw [<- Ja i,<- Ja j,zg2 _ _ _ _ (Nat.mod_lt _ (by decide)) (Nat.mod_lt _ (by decide)),<- Ja,<- Nat.add_mod,Ja]
theorem VR (j c:Nat):∀ n,en (mo j c) n=mo (j*n) (c ^ n)
 | 0=>rfl
 | n+1=>by rw [en,VR j c n,zkr,Nat.mul_succ,Nat.pow_succ]
theorem zjB {p:Nat}(j:Nat){a b:Nat}(h:a % p=b % p):mA p (mo j a) (mo j b):=by
 refine ⟨?_,?_,?_,?_,?_,?_,?_⟩ <;> (simp only [mo];split <;> first | exact h | rfl)
def VS (r:Nat)(x:V7):V7:=V7.add (mo 0 x.a0) (V7.add (mo (1*r) x.a1) (V7.add (mo (2*r) x.a2) (V7.add (mo (3*r) x.a3) (V7.add (mo (4*r) x.a4) (V7.add (mo (5*r) x.a5) (mo (6*r) x.a6))))))
theorem zg4 (x:V7):VS 1 x=x:=by apply V7.ext7 <;> simp [VS,mo,V7.add]
theorem zg5 {p:Nat}(hp:sB p)(x:V7):mA p (en x p) (VS p x):=by
 have key : ∀ (j c : Nat) (B B' : V7), mA p (en B p) B' -> mA p (en (V7.add (mo j c) B) p) (V7.add (mo (j * p) c) B') := fun j c B B' h => by
  refine (znR hp _ _).trans (mA.add ?_ h);rw [VR];exact zjB _ (Tm hp c)
 have last:mA p (en (mo (6*1) x.a6) p) (mo (6*p) x.a6):=by
  rw [VR,Nat.mul_one];exact zjB _ (Tm hp x.a6)
 have hx:en x p=en (VS 1 x) p:=by rw [zg4]
 rw [hx];have h:=key 0 x.a0 _ _ (key (1*1) x.a1 _ _ (key (2*1) x.a2 _ _ (key (3*1) x.a3 _ _ (key (4*1) x.a4 _ _ (key (5*1) x.a5 _ _ last)))));simpa only [VS,Nat.mul_one,Nat.zero_mul,Nat.one_mul] using h
theorem Et {i j:Nat}(c:Nat)(h:i % 7=j % 7):mo i c=mo j c:=by rw [<- Ja i,h,Ja]
theorem Eu (r s:Nat)(h:r % 7=s % 7)(x:V7):VS r x=VS s x:=by
 have e:∀ k,k*r % 7=k*s % 7:=fun k=>by rw [Nat.mul_mod,h,<- Nat.mul_mod]
 unfold VS;rw [Et _ (e 1),Et _ (e 2),Et _ (e 3),Et _ (e 4),Et _ (e 5),Et _ (e 6)]
theorem zkv (r:Nat)(hr:r % 7≠0)(x:V7):∃ i,i < 6/\VS r x=sgi i x/\5 ^ i % 7=r % 7:=by
 rcases (show r % 7=1\/r % 7=2\/r % 7=3\/r % 7=4\/r % 7=5\/r % 7=6 by omega) with h | h | h | h | h | h
 ·exact ⟨0,by decide,by rw [Eu r 1 h];apply V7.ext7 <;> simp [VS,mo,V7.add,sgi,sg7],by rw [h]⟩
 ·exact ⟨4,by decide,by rw [Eu r 2 h];apply V7.ext7 <;> simp [VS,mo,V7.add,sgi,sg7],by rw [h]⟩
 ·exact ⟨5,by decide,by rw [Eu r 3 h];apply V7.ext7 <;> simp [VS,mo,V7.add,sgi,sg7],by rw [h]⟩
 ·exact ⟨2,by decide,by rw [Eu r 4 h];apply V7.ext7 <;> simp [VS,mo,V7.add,sgi,sg7],by rw [h]⟩
 ·exact ⟨1,by decide,by rw [Eu r 5 h];apply V7.ext7 <;> simp [VS,mo,V7.add,sgi,sg7],by rw [h]⟩
 ·exact ⟨3,by decide,by rw [Eu r 6 h];apply V7.ext7 <;> simp [VS,mo,V7.add,sgi,sg7],by rw [h]⟩
theorem zg6 {p:Nat}(hp:sB p)(h7:p % 7≠0)(x:V7):∃ i,i < 6/\mA p (en x p) (sgi i x):=by
 obtain ⟨i,hi,he,_⟩:=zkv p h7 x;exact ⟨i,hi,by rw [<- he];exact zg5 hp x⟩
def rd7 (n:Nat)(x:V7):V7:=⟨x.a0 % n,x.a1 % n,x.a2 % n,x.a3 % n,x.a4 % n,x.a5 % n,x.a6 % n⟩
theorem zdz (n:Nat)(x:V7):mA n (rd7 n x) x:=⟨Nat.mod_mod _ _,Nat.mod_mod _ _,Nat.mod_mod _ _,Nat.mod_mod _ _,Nat.mod_mod _ _,Nat.mod_mod _ _,Nat.mod_mod _ _⟩
def pw7 (n:Nat):Nat->V7->Nat->V7
 | 0,_,_=>V7.one
 | f+1,b,e=>if e=0 then V7.one else if e % 2=1 then rd7 n (V7.mul (rd7 n (V7.mul (pw7 n f b (e / 2)) (pw7 n f b (e / 2)))) b) else rd7 n (V7.mul (pw7 n f b (e / 2)) (pw7 n f b (e / 2)))
theorem Rk (n:Nat):∀ (f:Nat) (b:V7) (e:Nat),e < 2 ^ f->mA n (pw7 n f b e) (en b e)
 | 0, b, e, h => by
  have:e=0:=by simpa using h
  subst this;exact mA.refl _ _
 | f + 1, b, e, h => by
  unfold pw7;by_cases h0:e=0
  ·rw [if_pos h0,h0];exact mA.refl _ _
  ·rw [if_neg h0];have ih:=Rk n f b (e / 2) (by rw [Nat.pow_succ] at h;omega);have e1:mA n (rd7 n (V7.mul (pw7 n f b (e / 2)) (pw7 n f b (e / 2)))) (en b (e / 2+e / 2)):=by
    rw [vp];exact (zdz _ _).trans (mA.mul ih ih)
   split
   ·have:e=e / 2+e / 2+1:=by omega
    conv=>rhs;rw [this]
    rw [en];exact (zdz _ _).trans (mA.mul e1 (mA.refl _ _))
   ·have:e=e / 2+e / 2:=by omega
    conv=>rhs;rw [this]
    exact e1
theorem mA.of_dvd {p n:Nat}(h:p ∣ n){x y:V7}(k:mA n x y):mA p x y:=by
 have m:∀ {a b:Nat},a % n=b % n->a % p=b % p:=fun {a b} hh=>by rw [<- Nat.mod_mod_of_dvd a h,hh,Nat.mod_mod_of_dvd _ h]
 obtain ⟨h0,h1,h2,h3,h4,h5,h6⟩:=k;exact ⟨m h0,m h1,m h2,m h3,m h4,m h5,m h6⟩
def gd7 (N:Nat)(x:V7):Nat:=Nat.gcd (x.a0+N - 1) (Nat.gcd x.a1 (Nat.gcd x.a2 (Nat.gcd x.a3 (Nat.gcd x.a4 (Nat.gcd x.a5 (Nat.gcd x.a6 N))))))
theorem zkO {N p : Nat}(hp : 1 < p)(hd : p ∣ N)(hN : 0 < N){x : V7}(h : gd7 N x = 1) : ¬ mA p x V7.one := fun ⟨h0, h1, h2, h3, h4, h5, h6⟩ => by
 have z:∀ {a:Nat},a % p=0 % p->p ∣ a:=fun {a} hh=>Nat.dvd_of_mod_eq_zero (by rw [hh,Nat.zero_mod]);have d0:p ∣ x.a0+N - 1:=by
  have hx:1<=x.a0:=by
   rcases Nat.eq_zero_or_pos x.a0 with e | e
   ·rw [e,Nat.zero_mod] at h0;have:(1:Nat) % p=1:=Nat.mod_eq_of_lt hp;simp only [V7.one] at h0;omega
   ·exact e
  have h7:=Nat.sub_mod_eq_zero_of_mod_eq (m:=x.a0) (k:=p) (n:=1) h0;rw [show x.a0+N - 1=(x.a0 - 1)+N by omega];exact Nat.dvd_add (Nat.dvd_of_mod_eq_zero h7) hd
 have:=Nat.dvd_gcd d0 (Nat.dvd_gcd (z h1) (Nat.dvd_gcd (z h2) (Nat.dvd_gcd (z h3) (Nat.dvd_gcd (z h4) (Nat.dvd_gcd (z h5) (Nat.dvd_gcd (z h6) hd))))));rw [show Nat.gcd (x.a0+N - 1) (Nat.gcd x.a1 (Nat.gcd x.a2 (Nat.gcd x.a3 (Nat.gcd x.a4 (Nat.gcd x.a5 (Nat.gcd x.a6 N))))))=1 from h] at this;have:=Nat.le_of_dvd (by omega) this;omega
theorem YI {N:Nat}{x:V7}(h:mA N (en x N) (sg7 x)):∀ i,mA N (en x (N ^ i)) (sgi i x)
 | 0=>by rw [Nat.pow_zero];show mA N (V7.mul V7.one x) x;rw [V7.mul_comm,V7.mul_one];exact mA.refl _ _
 | i + 1 => by
  have ih:=YI h i;have e:en x (N ^ (i+1))=en (en x N) (N ^ i):=by
   have key : ∀ k, en (en x N) k = en x (N * k) := fun k => by
    induction k with
    | zero=>rfl
    | succ k ihk=>rw [en,ihk,Nat.mul_succ,vp]
   rw [key,Nat.pow_succ,Nat.mul_comm]
  have cong : ∀ {a b : V7} (k : Nat), mA N a b -> mA N (en a k) (en b k) := fun {a b} k hab => by
   induction k with
   | zero=>exact mA.refl _ _
   | succ k ihk=>exact mA.mul ihk hab
  rw [e];refine (cong _ h).trans ?_;rw [<- zcV];exact ih.sg7
def zhD (n:Nat)(x y:V7):Bool:=x.a0 % n==y.a0 % n&&x.a1 % n==y.a1 % n&&x.a2 % n==y.a2 % n&&x.a3 % n==y.a3 % n&&x.a4 % n==y.a4 % n&&x.a5 % n==y.a5 % n&&x.a6 % n==y.a6 % n
theorem YK {n:Nat}{x y:V7}(h:zhD n x y=true):mA n x y:=by
 simp only [zhD,Bool.and_eq_true,beq_iff_eq] at h;obtain ⟨⟨⟨⟨⟨⟨h0,h1⟩,h2⟩,h3⟩,h4⟩,h5⟩,h6⟩:=h;exact ⟨h0,h1,h2,h3,h4,h5,h6⟩
def zkR (N f:Nat)(x:V7)(l:List (Nat × Nat)):Bool:=
 Nat.blt 1 N&&N % 7==5&&Nat.blt N (2 ^ f)&&Nat.blt (Fl l) (2 ^ f)&&zhD N (pw7 N f x N) (sg7 x)&&zhD N (pw7 N f x (Fl l)) V7.one&&zfM l
  &&(l.all fun y=>Fl l % y.1 ^ (y.2+1)==0&&gd7 N (pw7 N f x (Fl l / y.1))==1)&&Nat.blt N (Fl l*Fl l)&&([1,2,3,4,5].all fun i=>N % (N ^ i % Fl l) !=0)
theorem Jp {N:Nat}(hN:1 < N):sB N\/∃ p,sB p/\p ∣ N/\p*p<=N:=by
 obtain ⟨p,hp,m,hm⟩:=LN N hN;have hp1:=hp.1;by_cases h1:m=1
 ·left;rw [hm,h1,Nat.mul_one];exact hp
 ·right
  have hm0:0 < m:=Nat.pos_of_ne_zero fun h=>by rw [h,Nat.mul_zero] at hm;omega
  rcases Nat.le_total p m with h | h
  ·exact ⟨p,hp,⟨m,hm⟩,by rw [hm];exact Nat.mul_le_mul_left p h⟩
  ·obtain ⟨q,hq,c,hc⟩:=LN m (by omega);have hqm:q<=m:=Nat.le_of_dvd hm0 ⟨c,hc⟩;refine ⟨q,hq,Nat.dvd_trans ⟨c,hc⟩ ⟨p,by rw [hm,Nat.mul_comm]⟩,?_⟩;rw [hm];exact Nat.mul_le_mul (Nat.le_trans hqm h) hqm
theorem zaZ {N f:Nat}{x:V7}{l:List (Nat × Nat)}(hc:zkR N f x l=true)(hq:∀ y∈l,sB y.1):sB N:=by
 simp only [zkR,Bool.and_eq_true,beq_iff_eq,List.all_eq_true,Nat.blt_eq,bne_iff_ne] at hc;obtain ⟨⟨⟨⟨⟨⟨⟨⟨⟨h1,h7⟩,hf⟩,hF⟩,hs⟩,ho⟩,hcop⟩,hall⟩,hbig⟩,hno⟩:=hc;rcases Jp h1 with h | ⟨p,hp,hd,hpp⟩
 ·exact h
 ·exfalso;have hp1:=hp.1;generalize hFe:Fl l=F at*;have hpF:p < F:=by
   rcases Nat.lt_or_ge p F with h | h
   ·exact h
   ·have:=Nat.mul_le_mul h h;omega
  have hp7 : p % 7 ≠ 0 := fun h => by
   obtain ⟨c,rfl⟩:=hd;rw [Nat.mul_mod,h,Nat.zero_mul,Nat.zero_mod] at h7;omega
  have hsg:mA N (en x N) (sg7 x):=(Rk N f x N hf).symm.trans (YK hs);have hone:mA p (en x F) V7.one:=((Rk N f x F hF).symm.trans (YK ho)).of_dvd hd;obtain ⟨i,hi,he⟩:=zg6 hp hp7 x;have hxi:mA p (en x p) (en x (N ^ i)):=he.trans ((YI hsg i).of_dvd hd).symm;have clo:=zcS (p:=p) x;have hTF:∀ k,mA p (en x (F*k)) V7.one:=fun k=>clo.mul hone k;have hTM:mA p (en x (p+(F - 1)*N ^ i)) V7.one:=by
   rw [vp];refine (mA.mul hxi (mA.refl p _)).trans ?_;rw [<- vp,show N ^ i+(F - 1)*N ^ i=F*N ^ i by
    obtain ⟨G,rfl⟩:∃ G,F=G+1:=⟨F - 1,by omega⟩;rw [Nat.add_sub_cancel,Nat.add_mul,Nat.one_mul,Nat.add_comm]]
   exact hTF _
  have hdv:Fl l ∣ p+(F - 1)*N ^ i:=by
   refine Np _ l hcop fun y hy=>?_;obtain ⟨h4,h5⟩:=hall y hy;have hy1:=(hq y hy).1;obtain ⟨e1,e2⟩:=Qz (by omega) h4;refine clo.ord (hq y hy) (m:=F / y.1 ^ (y.2+1)) (by rw [<- e1];exact hone) hTM fun hh=>?_;rw [e2] at hh;exact zkO hp1 hd (by omega) h5 ((((Rk N f x _ (Nat.lt_of_le_of_lt (Nat.div_le_self _ _) hF)).of_dvd hd)).trans hh)
  rw [hFe] at hdv;have hmod:p=N ^ i % F:=by
   have h2:(p+(F - 1)*N ^ i) % F=0:=Nat.mod_eq_zero_of_dvd hdv;have h3:(p+(F - 1)*N ^ i+N ^ i) % F=p:=by
    rw [show p+(F - 1)*N ^ i+N ^ i=p+F*N ^ i by
     obtain ⟨G,rfl⟩:∃ G,F=G+1:=⟨F - 1,by omega⟩;rw [Nat.add_sub_cancel,Nat.add_mul,Nat.one_mul,Nat.add_assoc],Nat.add_mul_mod_self_left,Nat.mod_eq_of_lt hpF]
   rw [<- h3,Nat.add_mod,h2,Nat.zero_add,Nat.mod_mod]
  have:i=0\/i∈[1,2,3,4,5]:=by
   simp only [List.mem_cons,List.not_mem_nil,or_false];omega
  rcases this with h0 | h0
  ·subst h0;rw [Nat.pow_zero,Nat.mod_eq_of_lt (by omega)] at hmod;omega
  ·have:=hno i h0;rw [<- hmod] at this;exact this (Nat.mod_eq_zero_of_dvd hd)
def qN:Nat:=776259046150354467565459065629240877815667024717257156601175597451483119974551053629334726938295821221455003840144432114575401859459023171316363806515641491872190410445098144254585345658296587683734775881559921685818610503605288959
def qX:V7:=⟨472108683336420558570838759154066377992788653337017677069228811795634040191892692997961014803335713064256529118424153431299893510512726104301113559583571137010917276950018081060477639266754403890339634000580126573199168488448923842,360429727256668221254414006146978014785201090645311850735075570702127934708458287519032532573789087189699625715011404729919999102823564113420899155762803935131946391311142530440534061600028096624112922276204177281678435993336674428,183566682325863128909542557674172382489958271151080036379932599236280770856975276212010400039181227032522238282820988406339504052237060873446782301546333516803650882127445732900370643574632559338058381742613275761651494587460825887,666704058729478391826673640344945852117368749367449303053962357251374807674964230205450802409150573748197153707144909398432649363453630858377393756184121499872707080494331678209089200509281250206643782582478812169626712368798513779,340395583688186118088787645553376060585721945308440833171748506506932885666222995393713890189779196762215642307592778786568039278725440699210927490112088937110675359602168640620690325488567378395913102557318034209848021180529508339,493519529637349669361993209957544112434272813742964540093117814832936560349624292270224623479347565406138405579601202890522147551040172956004904390162358276669630880364360141804803901538450960241697417807165995690037375637569385302,588311919627451782249586443685880710857356575316764385901636729480645480450066439918945644258599921682790420649982290815219374579043497080503434572711288664889233770930925771982375610655471702038173862559879265057233233758277324260⟩
def qL:List (Nat × Nat):=[(2,63),(3,1),(5,0),(7,0),(13,0),(31,0),(73,0),(199,0),(313,0),(3851,0),(18661,0),(4332967,0),(58502243,0),(290866399,0),(182088203053,0),(500905890761075075179,0),(22834869333004942403899,0)]
theorem zkY:zkR qN 768 qX qL=true:=by decide +kernel
def zjR (N k:Nat):Bool:=Nat.blt 1 N&&Nat.blt N ((k+2)*(k+2))&&(List.range k).all fun i=>N % (i+2) !=0
theorem fP {N k:Nat}(h:zjR N k=true):sB N:=by
 simp only [zjR,Bool.and_eq_true,Nat.blt_eq,List.all_eq_true,List.mem_range,bne_iff_ne] at h;obtain ⟨⟨h1,h2⟩,h3⟩:=h;rcases Jp h1 with h | ⟨p,hp,hd,hpp⟩
 ·exact h
 ·exfalso;have hp1:=hp.1;have hlt:p < k+2:=by
   rcases Nat.lt_or_ge p (k+2) with h | h
   ·exact h
   ·have:=Nat.mul_le_mul h h;omega
  have:=h3 (p - 2) (by omega);rw [show p - 2+2=p by omega] at this;exact this (Nat.mod_eq_zero_of_dvd hd)
def zk9 (N f a:Nat)(l:List (Nat × Nat)):Bool:=Nat.blt 1 N&&Nat.blt N (2 ^ f)&&zl6 N f a l&&Nat.blt N (Fl l*Fl l)
theorem qq {N f a:Nat}{l:List (Nat × Nat)}(h:zk9 N f a l=true)(hq:∀ x∈l,sB x.1):sB N:=by
 simp only [zk9,Bool.and_eq_true,Nat.blt_eq] at h;obtain ⟨⟨⟨h1,h2⟩,h3⟩,h4⟩:=h;rcases Jp h1 with h | ⟨p,hp,hd,hpp⟩
 ·exact h
 ·exfalso;have hp1:=hp.1;have hdv:=zi2 h1 h2 h3 hq hp hd;have hle:=Nat.le_of_dvd (by omega) hdv;generalize Fl l=F at*;have:=Nat.mul_le_mul (show F<=p by omega) (show F<=p by omega);omega
theorem zow:sB 2:=fP (k:=0) (by decide +kernel)
theorem zjT:sB 3:=fP (k:=0) (by decide +kernel)
theorem zoz:sB 5:=fP (k:=1) (by decide +kernel)
theorem zoA:sB 7:=fP (k:=1) (by decide +kernel)
theorem zld:sB 13:=fP (k:=2) (by decide +kernel)
theorem zle:sB 31:=fP (k:=4) (by decide +kernel)
theorem zlf:sB 73:=fP (k:=7) (by decide +kernel)
theorem zhS:sB 199:=fP (k:=13) (by decide +kernel)
theorem zhT:sB 313:=fP (k:=16) (by decide +kernel)
theorem zeh:sB 3851:=fP (k:=61) (by decide +kernel)
theorem zbn:sB 18661:=fP (k:=135) (by decide +kernel)
theorem zbp:sB 65651:=fP (k:=255) (by decide +kernel)
theorem Um : sB 4332967 := qq (f := 23) (a := 2) (l := [(65651, 0)]) (by decide +kernel) (by
 intro x hx;simp only [List.mem_cons,List.not_mem_nil,or_false] at hx;subst hx;exact zbp)
theorem WL:sB 223291:=fP (k:=471) (by decide +kernel)
theorem RD : sB 58502243 := qq (f := 26) (a := 2) (l := [(223291, 0)]) (by decide +kernel) (by
 intro x hx;simp only [List.mem_cons,List.not_mem_nil,or_false] at hx;subst hx;exact WL)
theorem zh0:sB 853:=fP (k:=28) (by decide +kernel)
theorem Uo : sB 1310209 := qq (f := 21) (a := 3) (l := [(853, 0), (3, 0)]) (by decide +kernel) (by
 intro x hx;simp only [List.mem_cons,List.not_mem_nil,or_false] at hx;rcases hx with rfl | rfl
 ·exact zh0
 ·exact zjT)
theorem OP : sB 290866399 := qq (f := 29) (a := 2) (l := [(1310209, 0)]) (by decide +kernel) (by
 intro x hx;simp only [List.mem_cons,List.not_mem_nil,or_false] at hx;subst hx;exact Uo)
theorem zbr:sB 39541:=fP (k:=197) (by decide +kernel)
theorem zdk:sB 9137:=fP (k:=94) (by decide +kernel)
theorem Ml : sB 2167716703 := qq (f := 32) (a := 2) (l := [(39541, 0), (9137, 0)]) (by decide +kernel) (by
 intro x hx;simp only [List.mem_cons,List.not_mem_nil,or_false] at hx;rcases hx with rfl | rfl
 ·exact zbr
 ·exact zdk)
theorem Jl : sB 182088203053 := qq (f := 38) (a := 2) (l := [(2167716703, 0)]) (by decide +kernel) (by
 intro x hx;simp only [List.mem_cons,List.not_mem_nil,or_false] at hx;subst hx;exact Ml)
theorem zhr:sB 229:=fP (k:=14) (by decide +kernel)
theorem zkJ:sB 53:=fP (k:=6) (by decide +kernel)
theorem TL : sB 5267459 := qq (f := 23) (a := 2) (l := [(229, 0), (53, 0)]) (by decide +kernel) (by
 intro x hx;simp only [List.mem_cons,List.not_mem_nil,or_false] at hx;rcases hx with rfl | rfl
 ·exact zhr
 ·exact zkJ)
theorem Wh:sB 138977:=fP (k:=371) (by decide +kernel)
theorem wH : sB 500905890761075075179 := qq (f := 69) (a := 2) (l := [(5267459, 0), (138977, 0)]) (by decide +kernel) (by
 intro x hx;simp only [List.mem_cons,List.not_mem_nil,or_false] at hx;rcases hx with rfl | rfl
 ·exact TL
 ·exact Wh)
theorem Wi:sB 114221:=fP (k:=336) (by decide +kernel)
theorem zhs:sB 907:=fP (k:=29) (by decide +kernel)
theorem HL : sB 3651845256751 := qq (f := 42) (a := 2) (l := [(114221, 0), (907, 0)]) (by decide +kernel) (by
 intro x hx;simp only [List.mem_cons,List.not_mem_nil,or_false] at hx;rcases hx with rfl | rfl
 ·exact Wi
 ·exact zhs)
theorem u3 : sB 22834869333004942403899 := qq (f := 75) (a := 2) (l := [(3651845256751, 0)]) (by decide +kernel) (by
 intro x hx;simp only [List.mem_cons,List.not_mem_nil,or_false] at hx;subst hx;exact HL)
theorem zjG:sB qN:=zaZ zkY (by
 intro y hy;simp only [qL,List.mem_cons,List.not_mem_nil,or_false] at hy;rcases hy with rfl | rfl | rfl | rfl | rfl | rfl | rfl | rfl | rfl | rfl | rfl | rfl | rfl | rfl | rfl | rfl | rfl
 ·exact zow
 ·exact zjT
 ·exact zoz
 ·exact zoA
 ·exact zld
 ·exact zle
 ·exact zlf
 ·exact zhS
 ·exact zhT
 ·exact zeh
 ·exact zbn
 ·exact Um
 ·exact RD
 ·exact OP
 ·exact Jl
 ·exact wH
 ·exact u3)
def yz:Nat:=2*qN+1
theorem zhu:zk9 yz 768 2 [(qN,0)]=true:=by decide +kernel
theorem zjH:sB yz:=qq zhu (by
 intro x hx;simp only [List.mem_cons,List.not_mem_nil,or_false] at hx;subst hx;exact zjG)
theorem T5 {a n:Nat}(hc:Nat.gcd a n=1)(he:a % 2=0):Nat.gcd (a / 2) n=1:=by
 have h1:Nat.gcd (a / 2) n ∣ Nat.gcd a n:=Nat.dvd_gcd (Nat.dvd_trans (Nat.gcd_dvd_left _ _) ⟨2,by omega⟩) (Nat.gcd_dvd_right _ _);rw [hc] at h1;exact Nat.dvd_one.1 h1
theorem zhv {a n:Nat}(hc:Nat.gcd a n=1)(hl:n<=a):Nat.gcd (a - n) n=1:=by
 have h1:Nat.gcd (a - n) n ∣ Nat.gcd a n:=Nat.dvd_gcd (by
  have:=Nat.dvd_add (Nat.gcd_dvd_left (a - n) n) (Nat.gcd_dvd_right (a - n) n)
  rwa [Nat.sub_add_cancel hl] at this) (Nat.gcd_dvd_right _ _)
 rw [hc] at h1;exact Nat.dvd_one.1 h1
theorem zdl {a n:Nat}(hn:n % 2=1)(hc:Nat.gcd a n=1)(he:a % 2=0):gN n a % 2=(gN n (a / 2)+if n % 8=3\/n % 8=5 then 1 else 0) % 2:=by
 have h2:Nat.gcd 2 n=1:=by
  have h1:=Nat.gcd_dvd_left 2 n;have h3:=Nat.le_of_dvd (by omega) h1;have h4:=Nat.gcd_dvd_right 2 n;have h5 : Nat.gcd 2 n ≠ 2 := fun h => by
   rw [h] at h4;have:=Nat.mod_eq_zero_of_dvd h4;omega
  have h6 : Nat.gcd 2 n ≠ 0 := fun h => by
   have:=Nat.eq_zero_of_gcd_eq_zero_left h;omega
  omega
 have h:=zlR hn h2 (T5 hc he);rw [show 2*(a / 2)=a by omega] at h;have h3:=zlU hn;generalize gN n (a / 2)=g at*
 split at h3 <;> rename_i hh
 ·rw [if_pos hh];omega
 ·rw [if_neg hh];omega
theorem zdm {a n:Nat}(ha:a % 2=1)(hn:n % 2=1)(hc:Nat.gcd a n=1):gN n a % 2=(gN a n+if a % 4=3/\n % 4=3 then 1 else 0) % 2:=by
 have h:=ziO ha hn hc;have h1:a / 2*(n / 2) % 2=if a % 4=3/\n % 4=3 then 1 else 0:=by
  rw [Nat.mul_mod]
  rcases Nat.mod_two_eq_zero_or_one (a / 2) with e1 | e1 <;> rcases Nat.mod_two_eq_zero_or_one (n / 2) with e2 | e2 <;> rw [e1,e2]
  ·rw [if_neg (by omega)]
  ·rw [if_neg (by omega)]
  ·rw [if_neg (by omega)]
  ·rw [if_pos (by omega)]
 rw [h1] at h
 split at h <;> rename_i hh
 ·rw [if_pos hh];omega
 ·rw [if_neg hh];omega
theorem zhI {a n:Nat}(hl:n<=a):gN n a=gN n (a - n):=zlS n a (a - n) (by
 conv=>lhs;rw [<- Nat.sub_add_cancel hl]
 rw [Nat.add_mod_right])
theorem zhw {n:Nat}(hc:Nat.gcd 0 n=1):gN n 0=0:=ziJ n fun h=>by rw [h] at hc;simp at hc
theorem zdo:yz / 2=qN:=by unfold yz;omega
theorem YD:yz % 2=1:=by unfold yz;omega
theorem zhy {a:Nat}(h0:0 < a)(ha:a < yz):Nat.gcd a yz=1:=zjH.cop h0 ha
theorem Rb {a:Nat}(ha:a < yz):a ^ qN % yz=1↔0 < a/\gN yz a % 2=0:=by
 rcases Nat.eq_zero_or_pos a with h | h
 ·subst h;have h0:(0:Nat) ^ qN=0:=Nat.zero_pow (by have:=zjG.1;omega);rw [h0,Nat.zero_mod];exact ⟨fun q=>absurd q (by omega),fun q=>absurd q.1 (by omega)⟩
 ·have:=zb1 zjH YD h ha;rw [zdo] at this;exact ⟨fun q=>⟨h,this.1 q⟩,fun q=>this.2 q.2⟩
end Go.Av
