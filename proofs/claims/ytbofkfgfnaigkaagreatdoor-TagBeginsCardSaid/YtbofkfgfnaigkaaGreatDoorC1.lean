/- What sync.Once does with whatever function it is handed. -/
import Derived.Test.YtbofkfgfnaigkaaGreatDoorChecked
import Derived.KernelRfl
import Derived.Tactics
import Derived.Tactics2
import Derived.Defers
import Derived.Laws.Pointers
import Derived.Laws.LoneSync
import Derived.RegionTactic
import Derived.RegionCalls
import Derived.ChangeAlike
import Derived.Test.YtbofkfgfnaigkaaGreatDoorV4
set_option linter.unusedSimpArgs false
set_option linter.unusedVariables false
set_option maxHeartbeats 1600000
set_option maxRecDepth 100000
namespace Go.Proofs.Once
open Go.Proofs
theorem disable (w:World):(callFunc 191 #[]).run Tryz.prog w=.ok (.value (.tuple #[])) w:=run_call_mark0 Tryz.func191 (by kernel_rfl) (by kernel_rfl) (by kernel_rfl) .disable (by kernel_rfl) w
theorem enable (w:World):(callFunc 193 #[]).run Tryz.prog w=.ok (.value (.tuple #[])) w:=run_call_mark0 Tryz.func193 (by kernel_rfl) (by kernel_rfl) (by kernel_rfl) .enable (by kernel_rfl) w
theorem acquire (a:Addr) (w:World):(callFunc 194 #[.pointer (some a)]).run Tryz.prog w=.ok (.value (.tuple #[])) w:=run_call_marked Tryz.func194 (by kernel_rfl) (by kernel_rfl) (by kernel_rfl) .acquire (by kernel_rfl) a w
theorem releaseMerge (a:Addr) (w:World):(callFunc 196 #[.pointer (some a)]).run Tryz.prog w=.ok (.value (.tuple #[])) w:=run_call_marked Tryz.func196 (by kernel_rfl) (by kernel_rfl) (by kernel_rfl) .releaseMerge (by kernel_rfl) a w
theorem zxK (a:Addr) (x:Value) (u:FrameMode) (w:World) (hc:w.cell? a=some x) (hz:w.frozen? a=false):
    CallsD Tryz.prog 185 #[.pointer (some a),.bool true] u w fun e u' w'=>u'=u∧(e=.returned (.tuple #[])∧w'=w.drew.setCell a (.int .u32 1)):=by
  have hc':w.drew.cell? a=some x:=by go_simp
  have hz':w.drew.frozen? a=false:=by go_simp
  have hst:=run_call_store (P:=Tryz.prog) Tryz.func189 (by kernel_rfl) (by kernel_rfl) (by kernel_rfl) (by kernel_rfl) (k:=.u32) (y:=1) hc' hz'
  go_enter_d Tryz.func185,Tryz.ntmps185
  go_wp2
  go_region_calls
  all_goals (go_end0;exact ⟨rfl,rfl⟩)
theorem zwD (a:Addr) (u:FrameMode) (w:World) (hc:w.cell? a=some (.int .i32 1)) (hz:w.frozen? a=false):
    CallsD Tryz.prog 184 #[.pointer (some a)] u w fun e u' w'=>u'=u∧(e=.returned (.tuple #[])∧w'=w.setCell a (.int .i32 0)):=by
  have hd:=disable
  have he:=enable
  have hr:=releaseMerge
  have hadd:=run_call_add (P:=Tryz.prog) Tryz.func197 (by kernel_rfl) (by kernel_rfl) (by kernel_rfl) .i32 (by kernel_rfl) (y:= -1) (s:=0) hc hz (by simp [go_sem];rfl)
  have hcv:=run_convert_to_unsafe (P:=Tryz.prog) (src:=259) (dst:=263) Tryz.underlying259 Tryz.underlying263 (by kernel_rfl) hc
  go_enter_d Tryz.func184,Tryz.ntmps184
  go_wp2
  go_end0
  go_wp2
  go_end0
  exact ⟨rfl,rfl⟩
theorem zKo (a:Addr) (w:World) (hc:w.cell? a=some (.int .i32 0)) (hz:w.frozen? a=false):
    Calls Tryz.prog 183 #[.pointer (some a)] w fun e w'=>e=.returned (.tuple #[])∧w'=w.setCell a (.int .i32 1):=by
  have hd:=disable
  have he:=enable
  have ha:=acquire
  have hcas:=run_call_cas_hit (P:=Tryz.prog) Tryz.func192 (by kernel_rfl) (by kernel_rfl) (by kernel_rfl) .i32 (by kernel_rfl) (y:=1) hc hz
  have hc':(w.setCell a (.int .i32 1)).cell? a=some (.int .i32 1):=World.cell?_setCell_same w a _ hc
  have hcv:=run_convert_to_unsafe (P:=Tryz.prog) (src:=259) (dst:=263) Tryz.underlying259 Tryz.underlying263 (by kernel_rfl) hc'
  go_enter Tryz.func183,Tryz.ntmps183
  go_wp2
  first | go_end0 | (simp only [Exit.inBlock,Exit.then];refine bodyPost_ret (results_none rfl _ _ _) rfl ?_) | refine bodyPost_ret (results_none rfl _ _ _) rfl ?_
  go_wp2
  go_end0
  exact ⟨rfl,rfl⟩
end Go.Proofs.Once
namespace Go.Proofs.Once
open Go.Proofs
theorem zMV (b off:Nat) (fi:FuncId) (first cap:Array Value) (w:World) (Q:World→Prop)
    (h0:w.cell? ⟨b,off,none⟩=some (.int .u32 0)) (h1:w.cell? ⟨b,off+1,none⟩=some (.int .i32 0))
    (f0:w.frozen? ⟨b,off,none⟩=false) (f1:w.frozen? ⟨b,off+1,none⟩=false)
    (hf:∀ (o:Oper) (a:Act) (K:Act→World→Prop) (R:Exit→Act→World→Prop),(∀ cv w2,Q w2→K (a.put o.dst cv) w2)→
      Oper.upon Tryz.prog o a K R (Sem.run Tryz.prog (callFunc fi (first++cap)) (w.setCell ⟨b,off+1,none⟩ (.int .i32 1))))
    (hQ:∀ w2,Q w2→w2.cell? ⟨b,off,none⟩=some (.int .u32 0)∧w2.cell? ⟨b,off+1,none⟩=some (.int .i32 1)∧w2.frozen? ⟨b,off,none⟩=false∧w2.frozen? ⟨b,off+1,none⟩=false):
    Calls Tryz.prog 172 #[.pointer (some ⟨b, off, none⟩), .func (.func fi) first cap] w fun e w' => e = .returned (.tuple #[]) ∧
      ∃ w2,Q w2∧w'=(w2.drew.setCell ⟨b,off,none⟩ (.int .u32 1)).setCell ⟨b,off+1,none⟩ (.int .i32 0):=by
  have hl:=run_call_load (P:=Tryz.prog) Tryz.func182 (by kernel_rfl) (by kernel_rfl) (by kernel_rfl) .u32 (by kernel_rfl) (w:=w.setCell ⟨b,off+1,none⟩ (.int .i32 1)) (a:=⟨b,off,none⟩) (x:=0) ((World.cell?_setCell_other _ ⟨b,off+1,none⟩ ⟨b,off,none⟩ _ (by simp)).trans h0)
  have hnot:∀ (x:Bool) (w:World),(Op.unary .not (.bool x)).run Tryz.prog w=.ok (.bool (!x)) w:=fun _ _=>rfl
  go_enter_defers Tryz.func172,Tryz.ntmps172
  go_wp2_with (go_at_call 183;refine (zKo ⟨b,off+1,none⟩ _ (by go_simp) (by go_simp)).mono ?_;rintro e w' ⟨rfl,rfl⟩)
  go_wp2
  refine hf _ _ _ _ fun cv w2 hq=>?_
  obtain ⟨q0,q1,q2,q3⟩:=hQ w2 hq
  rename_i hK
  refine hK _ _ ?_
  go_wp2
  refine leaves_cons (f:=185) (args:=#[.pointer (some ⟨b,off,none⟩),.bool true]) (by simp) (by simp [go_sem]) ?_
  refine (zxK ⟨b,off,none⟩ (.int .u32 0) .returning _ q0 q2).mono ?_
  rintro e u' w'' ⟨rfl,rfl,rfl⟩
  refine leaves_cons (f:=184) (args:=#[.pointer (some ⟨b,off+1,none⟩)]) (by simp [settle]) (by simp [go_sem]) ?_
  refine (zwD ⟨b,off+1,none⟩ _ _ ?_ (by simp [q3])).mono ?_
  · refine (World.cell?_setCell_other _ ⟨b, off, none⟩ ⟨b, off + 1, none⟩ _ (by simp)).trans ?_
    rw [World.cell?_drew]
    exact q1
  rintro e u' w'' ⟨rfl,rfl,rfl⟩
  simp [Leaves,settle,results,Tryz.results172]
  exact ⟨w2,hq,rfl⟩
end Go.Proofs.Once
namespace Go.Proofs.Once
open Go.Proofs
theorem do_first (b off:Nat) (fi:FuncId) (first cap:Array Value) (w:World) (Q:World→Prop)
    (h0:w.cell? ⟨b,off,none⟩=some (.int .u32 0)) (h1:w.cell? ⟨b,off+1,none⟩=some (.int .i32 0))
    (f0:w.frozen? ⟨b,off,none⟩=false) (f1:w.frozen? ⟨b,off+1,none⟩=false)
    (hf:∀ (o:Oper) (a:Act) (K:Act→World→Prop) (R:Exit→Act→World→Prop),(∀ cv w2,Q w2→K (a.put o.dst cv) w2)→
      Oper.upon Tryz.prog o a K R (Sem.run Tryz.prog (callFunc fi (first++cap)) (w.setCell ⟨b,off+1,none⟩ (.int .i32 1))))
    (hQ:∀ w2,Q w2→w2.cell? ⟨b,off,none⟩=some (.int .u32 0)∧w2.cell? ⟨b,off+1,none⟩=some (.int .i32 1)∧w2.frozen? ⟨b,off,none⟩=false∧w2.frozen? ⟨b,off+1,none⟩=false):
    Calls Tryz.prog 164 #[.pointer (some ⟨b, off, none⟩), .func (.func fi) first cap] w fun e w' => e = .returned (.tuple #[]) ∧
      ∃ w2,Q w2∧w'=(w2.drew.setCell ⟨b,off,none⟩ (.int .u32 1)).setCell ⟨b,off+1,none⟩ (.int .i32 0):=by
  have hl:=run_call_load (P:=Tryz.prog) Tryz.func182 (by kernel_rfl) (by kernel_rfl) (by kernel_rfl) .u32 (by kernel_rfl) h0
  have hnot:∀ (x:Bool) (w:World),(Op.unary .not (.bool x)).run Tryz.prog w=.ok (.bool (!x)) w:=fun _ _=>rfl
  go_enter Tryz.func164,Tryz.ntmps164
  go_wp2_with (first | (go_at_call 172;refine (zMV b off fi first cap _ Q h0 h1 f0 f1 hf hQ).mono ?_;rintro e w' ⟨rfl,w2,hq,rfl⟩) | (go_at_call 171;go_in))
  go_end0
  exact ⟨rfl,w2,hq,rfl⟩
theorem do_done (a:Addr) (d:Int) (hd:¬d=0) (fv:Value) (w:World) (h0:w.cell? a=some (.int .u32 d)):
    Calls Tryz.prog 164 #[.pointer (some a),fv] w fun e w'=>e=.returned (.tuple #[])∧w'=w:=by
  have hl:=run_call_load (P:=Tryz.prog) Tryz.func182 (by kernel_rfl) (by kernel_rfl) (by kernel_rfl) .u32 (by kernel_rfl) h0
  have hnot:∀ (x:Bool) (w:World),(Op.unary .not (.bool x)).run Tryz.prog w=.ok (.bool (!x)) w:=fun _ _=>rfl
  have hd':(d !=0)=true:=by simp [hd]
  go_enter Tryz.func164,Tryz.ntmps164
  go_wp2
  go_end0
  exact ⟨rfl,rfl⟩
end Go.Proofs.Once
