/- Whatever the script is, what its calls answer, and the text of these, are as the document says: the law ScriptPlays returns true and its argument reads as before, where the tables are laid as the texts of the program and the library lay them. -/
import Derived.Test.YtbookmjmhfoolaaGreatDoorRows
import Derived.Test.YtbookmjmhfoolaaGreatDoorTie
import Derived.Test.YtbookmjmhfoolaaGreatDoorCards
import Derived.Test.YtbookmjmhfoolaaGreatDoorCG
import Derived.Test.YtbookmjmhfoolaaGreatDoorC7
import Derived.Test.YtbookmjmhfoolaaGreatDoorL0
import Derived.Test.YtbookmjmhfoolaaGreatDoorL2
set_option linter.unusedSimpArgs false
set_option linter.unusedVariables false
set_option maxRecDepth 100000
namespace Go.Proofs.YtbookmjmhfoolaaGreatDoor
open Go.ChangeShapes Go.WideShapes Go.RowKit Go.Av
theorem own:ownKnob Tryz.prog.godebug=none:=by kernel_rfl
theorem ztF:laidOutB Tryz.prog=true:=by kernel_rfl
theorem gK:Tryz.prog.globalNamed "avouch/keccak.constants"=some 3:=by kernel_rfl
abbrev NU:List (String × DataW Unit):=[("math/bits.deBruijn32tab",Rows.laid_math_bits_deBruijn32tab),("math/bits.deBruijn64tab",Rows.laid_math_bits_deBruijn64tab),("internal/strconv.uint64pow10",Rows.laid_internal_strconv_uint64pow10),("avouch/keccak.constants",Rows.laid_avouch_keccak_constants)]
theorem zcU (os : Os)(args : Array Value) : laidMetH Tryz.prog NU ((World.laidAll Tryz.prog os NU).forCall (fun _ _ => 0) ⟨#[], args, []⟩).memory := by
 rw [Go.MakeChecks.laidMetH_plain _ _ _ (by kernel_rfl)];exact laidMet_laidAll args (by kernel_rfl) (by kernel_rfl)
def rcI:List Int:=[1,32898,9223372036854808714,9223372039002292224,32907,2147483649,9223372039002292353,9223372036854808585,138,136,2147516425,2147483658,2147516555,9223372036854775947,9223372036854808713,9223372036854808579,9223372036854808578,9223372036854775936,32778,9223372039002259466,9223372039002292353,9223372036854808704,2147483649,9223372039002292232]
def zro:List Int:=[1,10,100,1000,10000,100000,1000000,10000000,100000000,1000000000,10000000000,100000000000,1000000000000,10000000000000,100000000000000,1000000000000000,10000000000000000,100000000000000000,1000000000000000000,10000000000000000000]
theorem zgA {W:World}(h:laidMetH Tryz.prog NU W):∀ g cs,Av.ah.glob g=some cs->Az (K1 W) g cs:=by
 intro g cs hg;rw [Go.MakeChecks.laidMetH_plain _ _ _ (by kernel_rfl)] at h;have h1:Az (K1 W) 0 (zro.map fun z=>.int .u64 z):=VB (t:=323) (e:=120) (n:=20) zqu (by kernel_rfl) (by kernel_rfl) (by kernel_rfl) (by kernel_rfl) (by kernel_rfl) h (List.mem_cons_of_mem _ (List.mem_cons_of_mem _ List.mem_cons_self));have h2:Az (K1 W) 3 (rcI.map fun z=>.int .u64 z):=VB (t:=384) (e:=120) (n:=24) gK (by kernel_rfl) (by kernel_rfl) (by kernel_rfl) (by kernel_rfl) (by kernel_rfl) h (List.mem_cons_of_mem _ (List.mem_cons_of_mem _ (List.mem_cons_of_mem _ (List.mem_singleton.2 rfl))))
 match g,hg with
 | 0,hg=>
  have hp:Lib.pow10Tab=zro:=by decide
  have e:some (Lib.pow10Tab.map fun z=>J.int .u64 z)=some cs:=hg;rw [hp] at e;obtain rfl:=sj e;exact h1
 | 3,hg=>obtain rfl:=sj hg;exact h2
 | 1,hg=>simp [Av.ah,zaN] at hg
 | 2,hg=>simp [Av.ah,zaN] at hg
 | g+4,hg=>simp [Av.ah,zaN] at hg
theorem Vz:∀ {es:List (List J)},th [.int .i64,.int .i64,.int .i64,.sl [.int .u8]] es->∃ l:List aF,es=l.map aF.cells/\∀ c∈l,ce c.b
 | [],_=>⟨[],rfl,by simp⟩
 | e :: es, h => by
  cases h with
  | cons _ _ _ h1 h2=>
   obtain ⟨l,rfl,hl⟩:=Vz h2
   cases h1 with
   | cons _ _ _ _ a1 h1=>
    cases h1 with
    | cons _ _ _ _ a2 h1=>
     cases h1 with
     | cons _ _ _ _ a3 h1=>
      cases h1 with
      | cons _ _ _ _ a4 h1=>
       cases h1
       obtain ⟨x1,rfl,w1⟩:=I2 a1;obtain ⟨x2,rfl,w2⟩:=I2 a2;obtain ⟨x3,rfl,w3⟩:=I2 a3;obtain ⟨es2,rfl,_,q2⟩:=N1 a4;obtain ⟨x4,rfl,w4⟩:=HF q2;refine ⟨⟨x1,x2,x3,x4⟩ :: l,rfl,fun a ha=>?_⟩;rcases List.mem_cons.1 ha with rfl | ha
       ·exact KB fun x hx=>wf_u8 (w4 x hx)
       ·exact hl a ha
theorem lifted (os:Os)(started:os.Started)(H:Type)(enc:TypeId × Value->H):
  ReturnsInHanded {} Tryz.checked os 4 .any (fun w args => (Rows.scriptPlaysSpec.pre enc Tryz.prog Tryz.f4 [] false w args /\ laidMetH Tryz.prog NU w) /\ sizedMet enc Tryz.prog Tryz.f4 (OpenSpec.ofChange Rows.scriptPlaysSpec) false w args)
   (Rows.scriptPlaysSpec.post enc Tryz.prog Tryz.f4 false true false false):=by
 refine returnsInHanded_of_change_and (C := Tryz.checked) (X := fun w _ => laidMetH Tryz.prog NU w) (fun _ _ _ hh h => h.of_heap hh) own started (by kernel_rfl) Tryz.func4
  (ChangeSpec.witness_shaped (enc:=enc) (C:=Tryz.checked) (os:=os) (X:=fun w _=>laidMetH Tryz.prog NU w) false (World.laidAll Tryz.prog os NU) #[.agg #[.int .i64 0,.slice none 0 0,.slice none 0 0]] 8 (World.laidAll_os _ _ _) (World.shaped_of_RefB (by kernel_rfl) (by kernel_rfl)) (by kernel_rfl) (by kernel_rfl) (by kernel_rfl) (zcU os _)) ?_
 intro W base args ds gs before hval0 hW _ _ hL _;have hval:∀ (j:Nat) t v,Tryz.f4.params[j]?=some t->args[j]?=some v->Value.okWide Tryz.prog W .any base t v:=hval0;have hW':=hW;obtain ⟨p,q,hA0,hV,rfl,hfz,hnd⟩:=hW;have hA:DataW.TrodAll enc Tryz.prog W 0 (fun _=>true) true Tryz.f4.params.toList args.toList ds p:=hA0;rw [Tryz.params4] at hA hval;obtain ⟨v0,vs0,d0,ds0,p0,q0,hargs,rfl,rfl,h0,r0⟩:=trodAll_cons hA;obtain ⟨rfl,rfl,rfl⟩:=trodAll_nil r0;obtain rfl:args=#[v0]:=by cases args;simp_all
 have hsh:shT Tryz.prog 6 25=some [.int .i64,.sl [.int .u8],.sl [.int .i64,.int .i64,.int .i64,.sl [.int .u8]]]:=by kernel_rfl
 rcases zit hsh (hval 0 _ v0 rfl rfl) h0 with ⟨avs,k1,e0,cs,rfl⟩ | ⟨ty',c,k1,k2,k3,_⟩
 rotate_left
 ·simp at k1
 cases k1 with
 | cons _ _ _ _ a1 k1=>
 cases k1 with
 | cons _ _ _ _ a2 k1=>
 cases k1 with
 | cons _ _ _ _ a3 k1=>
 cases k1
 obtain ⟨bk,rfl,w1⟩:=I2 a1;obtain ⟨es2,rfl,l2,q2⟩:=N1 a2;obtain ⟨p,rfl,w2⟩:=HF q2;obtain ⟨es3,rfl,l3,q3⟩:=N1 a3;obtain ⟨l,rfl,w3⟩:=Vz q3;have hlp:p.length < 9223372036854775808:=by unfold maxLen at l2;simp at l2;omega
 have hll:l.length < 9223372036854775808:=by unfold maxLen at l3;simp at l3;omega
 have hok:=OG ⟨0,0,0,0⟩ ⟨[],[]⟩ bk p (KB fun x hx=>wf_u8 (w2 x hx)) hlp l hll w3;have hcall:=ziv znl (W:=W) (f:=Av.fA) (args:=[.agg (QQ bk p l)]) (cargs:=#[.agg cs]) rfl hok (zgA hL) (.cons _ _ _ _ e0 .nil);refine hcall.mono fun e W' ⟨he,hb⟩=>?_;exact ⟨_,he,zcZ (t:=4) ztF (of_decide_eq_true (by kernel_rfl)) rfl hW' hb (by kernel_rfl) (by kernel_rfl) ⟨rfl,rfl,rfl⟩⟩
theorem IE:Rows.ScriptPlaysSaid:=
 OpenClaim.holds_of_wide 4 Tryz.f4 rfl rfl rfl rfl rfl rfl rfl ⟨rfl, rfl, rfl, rfl, rfl⟩ rfl rfl rfl rfl rfl (by kernel_rfl) Tryz.func4 ztR
  (of_decide_eq_true (by kernel_rfl)) (by unfold Func.isWrapper;first | (rw [if_pos (by decide +kernel)];kernel_rfl) | (rw [if_neg (by decide +kernel)];exact ⟨rfl,rfl⟩))
  (fun os started H enc _=>lifted os started H enc)
theorem scriptPlays_card:Rows.ScriptPlaysCardSaid:=
 Claim7.holds_tied_plain_at .later [] [.data,.data,.data,.data] true (true,"e7628a40f41ecee1889df80b5d4ad8a9c3a110d85373a5fed0e46aaf48790d1b") true
  IE (fun _ h=>by cases h) (by kernel_rfl) (fun _ h=>by cases h) scriptPlays_row_tie rfl ⟨rfl,rfl⟩ (by kernel_rfl) rfl
  (fun f fn hf hfn => by
   obtain rfl:f=4:=sj ((show Tryz.prog.funcNamed "avouch/avouchlaw19.ScriptPlays"=some 4 by kernel_rfl).symm.trans hf) |>.symm;obtain rfl:fn=Tryz.f4:=(sj (Tryz.func4.symm.trans hfn)).symm;exact ⟨by kernel_rfl, fun j t ht => by
    rw [Tryz.params4] at ht;have h3:t=25:=by
     rcases j with _ | j
     ·simpa using ht.symm
     ·simp at ht
    subst h3;exact (show Tryz.prog.wantsStandIn 25=false by kernel_rfl)⟩)
  (by kernel_rfl)
#print axioms scriptPlays_card
end Go.Proofs.YtbookmjmhfoolaaGreatDoor
